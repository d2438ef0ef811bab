/- GolexBegins: the law answers true. -/
import Derived.Test.YtfolmcfcmonkhaaDoorPAllx5
import Derived.Test.YtfolmcfcmonkhaaDoorLyBegins
import Derived.Test.YtfolmcfcmonkhaaDoorLyG
namespace Go.Proofs.YtfolmcfcmonkhaaDoor.Pure
open Go Go.RowKit Go.Proofs.YtfolmcfcmonkhaaDoor.PAll Go.Proofs.YtfolmcfcmonkhaaDoor.Fr Go.Proofs.YtfolmcfcmonkhaaDoorW.PrintWords Go.Proofs.YtfolmcfcmonkhaaDoorW.PrintLast Go.Proofs.YtfolmcfcmonkhaaDoorPw Go.Proofs.YtfolmcfcmonkhaaDoor
set_option linter.unusedVariables false
set_option linter.unusedSimpArgs false
theorem begins_j0 (s o : ByteArray) (k : Int) (hs : s.size ≤ 1024) (f : Bool) (hf : f = false → o.size ≤ 1024) : Ev (fun q => seichelaw11_GolexBegins.j0 q s o k f) true := by
  refine Ev.step (fun _ => seichelaw11_GolexBegins.j0.eq_2 ..) ?_
  cases f with
  | true => exact ev_pos rfl (ev_ret rfl)
  | false =>
    have ho := hf rfl
    have e1 : golex_Lex.f s = some (lexB s).1 := by unfold golex_Lex.f; rw [if_pos (by omega)]
    refine ev_neg Bool.false_ne_true (ev_call (ev_eq e1) ?_)
    have lT := lex_len s (by omega)
    have hat : ∀ t ∈ (lexB s).1, Wr t → 1 ≤ fin t ∧ fin t ≤ s.size ∧ t.f2 + (t.f1.size : Int) = (fin t : Int) := by
      intro t ht hw
      have hk := skp_le (bytesOf s)
      have := Fr.lx_fin _ _ _ _ (Nat.le_refl _) (byt_drop (byt_bytesOf s) (skp (bytesOf s))) t ht hw
      rw [List.length_drop, bytesOf_length] at this
      rw [bytesOf_length] at hk
      exact ⟨by omega, by omega, this.2.2⟩
    have cut := fun k e h1 h2 h3 h4 h5 => lex_begins s o k e h1 h2 h3 h4 h5
    generalize (lexB s).1 = T at lT hat cut ⊢
    have skip : ∀ g : Bool, g = true → Ev (fun q => seichelaw11_GolexBegins.j1 q s o k T g) true := by
      rintro g rfl
      exact Ev.step (fun _ => seichelaw11_GolexBegins.j1.eq_2 ..) (ev_pos rfl (ev_ret rfl))
    have w : wrap64 ((T.length : Int) - 1) = (T.length : Int) - 1 := w64 (by omega) (by omega)
    rw [w]
    by_cases c1 : k < 0
    · exact ev_pos c1 (skip _ rfl)
    refine ev_neg c1 ?_
    by_cases c2 : k ≥ (T.length : Int) - 1
    · exact ev_pos c2 (skip _ rfl)
    obtain ⟨j, rfl⟩ : ∃ j : Nat, k = (j : Int) := ⟨k.toNat, by omega⟩
    have hj : j + 1 < T.length := by omega
    have w1 : wrap64 ((j : Int) + 1) = ((j + 1 : Nat) : Int) := by rw [w64 (by omega) (by omega)]; omega
    refine ev_neg c2 (ev_pos (by omega) (ev_pos (by omega) ?_))
    rw [w1]
    by_cases c3 : (rd_T27 T (j : Int)).f1.toList = ([] : List UInt8)
    · exact ev_pos c3 (skip _ rfl)
    refine ev_neg c3 ?_
    by_cases c4 : (rd_T27 T (j : Int)).f1.toList = ([46] : List UInt8)
    · exact ev_pos c4 (skip _ rfl)
    refine ev_neg c4 (ev_pos (by omega) (ev_pos (by omega) ?_))
    by_cases c5 : (rd_T27 T ((j + 1 : Nat) : Int)).f1.toList = ([] : List UInt8)
    · exact skip _ (by rw [c5]; rfl)
    have a1 := hat _ (rd_mem hj) c5
    obtain ⟨R, hR⟩ := cut j _ hj c3 c4 c5 rfl
    refine Ev.step (fun _ => seichelaw11_GolexBegins.j1.eq_2 ..) (ev_neg (by simpa using c5) ?_)
    rw [w1]
    refine ev_pos (by omega) (ev_pos (by omega) ?_)
    rw [a1.2.2]
    generalize fin (rd_T27 T ((j + 1 : Nat) : Int)) = e at a1 hR ⊢
    have w2 : wrap64 (e : Int) = (e : Int) := w64 (by omega) (by omega)
    rw [w2, Int.toNat_natCast]
    have se : (s.extract 0 e).size = e := by rw [ByteArray.size_extract]; omega
    have st : (s.extract 0 e ++ o).size = e + o.size := by rw [ByteArray.size_append, se]
    have e3 : golex_Lex.f (s.extract 0 e ++ o) = some (T.take (j + 1) ++ R) := by unfold golex_Lex.f; rw [if_pos (by omega), hR]
    have lt : (T.take (j + 1)).length = j + 1 := by rw [List.length_take]; omega
    refine ev_pos (by omega) (ev_pos (by omega) (ev_pos (by omega) (ev_call (ev_eq e3) ?_)))
    have lm : (T.take (j + 1) ++ R).length = j + 1 + R.length := by rw [List.length_append, lt]
    rw [lm]
    have q1 : ((j + 1 + R.length : Nat) : Int) > (j : Int) := by clear hat cut skip hR a1; omega
    have q2 : ((j + 1 : Nat) : Int) ≤ ((j + 1 + R.length : Nat) : Int) := Int.ofNat_le.2 (Nat.le_add_right _ _)
    have q3 : ((j + 1 : Nat) : Int) ≤ (T.length : Int) := Int.ofNat_le.2 (Nat.le_of_lt hj)
    refine ev_pos q1 (ev_pos q2 (ev_pos q3 ?_))
    rw [Int.toNat_natCast, List.take_append_of_le_length (by rw [lt]; exact Nat.le_refl _), List.take_take, Nat.min_self]
    exact ev_call (same_ev _ _ true ⟨fun _ => rfl, fun _ => rfl⟩ (by rw [lt]; omega)) (ev_ret rfl)
theorem GolexBegins : seichelaw11_GolexBegins.Pure := by
  intro s o k _ _ _
  suffices h : Ev (fun q => seichelaw11_GolexBegins.f q s o k) true by
    obtain ⟨K, hk⟩ := h
    exact ⟨K, hk K (Nat.le_refl _)⟩
  unfold seichelaw11_GolexBegins.f
  refine ev_call (ev_eq alive_true) (ev_pos rfl ?_)
  by_cases c1 : (s.size : Int) > 1024
  · exact ev_pos c1 (Ev.step (fun _ => seichelaw11_GolexBegins.j0.eq_2 ..) (ev_pos rfl (ev_ret rfl)))
  · exact ev_neg c1 (begins_j0 s o k (by omega) _ (fun h => by rw [decide_eq_false_iff_not] at h; omega))
end Go.Proofs.YtfolmcfcmonkhaaDoor.Pure
