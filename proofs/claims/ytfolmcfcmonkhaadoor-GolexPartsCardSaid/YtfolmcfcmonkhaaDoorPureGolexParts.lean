/- GolexParts: the law answers true. -/
import Derived.Test.YtfolmcfcmonkhaaDoorPAllx4
import Derived.Test.YtfolmcfcmonkhaaDoorLyParts
import Derived.Test.YtfolmcfcmonkhaaDoorLyG
namespace Go.Proofs.YtfolmcfcmonkhaaDoor.Pure
open Go Go.RowKit Go.Proofs.YtfolmcfcmonkhaaDoor.PAll Go.Proofs.YtfolmcfcmonkhaaDoor.Fr Go.Proofs.YtfolmcfcmonkhaaDoorW.PrintWords Go.Proofs.YtfolmcfcmonkhaaDoorW.PrintLast Go.Proofs.YtfolmcfcmonkhaaDoorPw Go.Proofs.YtfolmcfcmonkhaaDoor
set_option linter.unusedVariables false
set_option linter.unusedSimpArgs false
theorem parts_l0 {a : ByteArray} {I M : List S27} (ha : a.size ≤ 1024) (hI : I.length ≤ 9000000) (hM : M.length ≤ 9000000) (hat : ∀ t ∈ M, 0 ≤ t.f2 ∧ t.f2 ≤ 1048576) :
    ∀ (n j : Nat), M.length - j ≤ n → j ≤ M.length → Ev (fun k => seichelaw11_GolexParts.l0 k a (I ++ M.map (shift (a.size + 1))) (I.length : Int) M (M.length : Int) (j : Int)) true
  | n, j, hn, hj => by
    refine Ev.step (fun _ => seichelaw11_GolexParts.l0.eq_2 ..) ?_
    by_cases c : j < M.length
    · have hn' : n ≠ 0 := by omega
      obtain ⟨k, rfl⟩ := Nat.exists_eq_succ_of_ne_zero hn'
      have w : wrap64 ((j : Int) + 1) = ((j + 1 : Nat) : Int) := by rw [w64 (by omega) (by omega)]; omega
      have w2 : wrap64 ((I.length : Int) + (j : Int)) = ((I.length + j : Nat) : Int) := by rw [w64 (by omega) (by omega)]; omega
      have w3 : wrap64 ((a.size : Int) + 1) = ((a.size + 1 : Nat) : Int) := by rw [w64 (by omega) (by omega)]; omega
      have ih := parts_l0 ha hI hM hat k (j + 1) (by omega) (by omega)
      have ln : (I ++ M.map (shift (a.size + 1))).length = I.length + M.length := by rw [List.length_append, List.length_map]
      have ht := hat _ (rd_mem c)
      rw [← w] at ih
      rw [w2, w3, rd_app, rd_map _ c, ln]
      refine ev_pos (by omega) (ev_pos (by omega) (ev_pos (by omega) (ev_pos (by omega) (ev_pos (by omega) (ev_neg ?_ ih)))))
      generalize rd_T27 M (j : Int) = t at ht
      have w4 : wrap64 (t.f2 + ((a.size + 1 : Nat) : Int)) = t.f2 + ((a.size + 1 : Nat) : Int) := w64 (by omega) (by omega)
      rw [w4]
      simp [shift]
    · exact ev_neg (by omega) (ev_ret rfl)
theorem parts_j0 (a b : ByteArray) (ha : a.size ≤ 1024) (hb : b.size ≤ 1024) (f : Bool) (hf : f = false → skp (bytesOf b) = 0) : Ev (fun k => seichelaw11_GolexParts.j0 k a b f) true := by
  refine Ev.step (fun _ => seichelaw11_GolexParts.j0.eq_2 ..) ?_
  cases f with
  | true => exact ev_pos rfl (ev_ret rfl)
  | false =>
    have hs := hf rfl
    have s1 : (a ++ (⟨#[10]⟩ : ByteArray)).size = a.size + 1 := by rw [ByteArray.size_append]; rfl
    have s2 : ((a ++ (⟨#[10]⟩ : ByteArray)) ++ b).size = a.size + 1 + b.size := by rw [ByteArray.size_append, s1]
    have e1 : golex_Lex.f (a ++ (⟨#[10]⟩ : ByteArray)) = some (lexB (a ++ (⟨#[10]⟩ : ByteArray))).1 := by unfold golex_Lex.f; rw [if_pos (by omega)]
    have e2 : golex_Lex.f b = some (lexB b).1 := by unfold golex_Lex.f; rw [if_pos (by omega)]
    have e3 : golex_Lex.f ((a ++ (⟨#[10]⟩ : ByteArray)) ++ b) = some (lexB ((a ++ (⟨#[10]⟩ : ByteArray)) ++ b)).1 := by unfold golex_Lex.f; rw [if_pos (by omega)]
    refine ev_neg Bool.false_ne_true (ev_pos (by omega) (ev_call (ev_eq e1) (ev_call (ev_eq e2) ?_)))
    have lL := lex_len (a ++ (⟨#[10]⟩ : ByteArray)) (by omega)
    have lM := lex_len b (by omega)
    have lA := lex_len ((a ++ (⟨#[10]⟩ : ByteArray)) ++ b) (by omega)
    have atM : ∀ t ∈ (lexB b).1, 0 ≤ t.f2 ∧ t.f2 ≤ 1048576 := by
      intro t ht
      have hk := skp_le (bytesOf b)
      have := Fr.lx_at _ _ _ _ (Nat.le_refl _) (byt_drop (byt_bytesOf b) (skp (bytesOf b))) t ht
      rw [List.length_drop, bytesOf_length] at this
      omega
    have cut := fun I t h ht => lex_parts a b I t hs h ht
    generalize (lexB (a ++ (⟨#[10]⟩ : ByteArray))).1 = L at lL cut ⊢
    generalize (lexB b).1 = M at lM atM cut ⊢
    have skip : ∀ g : Bool, g = true → Ev (fun k => seichelaw11_GolexParts.j1 k a b L M g) true := by
      rintro g rfl
      exact Ev.step (fun _ => seichelaw11_GolexParts.j1.eq_2 ..) (ev_pos rfl (ev_ret rfl))
    by_cases c0 : (L.length : Int) = 0
    · exact ev_pos c0 (skip _ rfl)
    have hL : L ≠ [] := by rintro rfl; exact c0 rfl
    obtain ⟨I, t, rfl⟩ : ∃ I t, L = I ++ [t] := ⟨_, _, (List.dropLast_concat_getLast hL).symm⟩
    have ln : (I ++ [t]).length = I.length + 1 := by simp
    have w : wrap64 (((I ++ [t]).length : Int) - 1) = ((I.length : Nat) : Int) := by rw [w64 (by omega) (by omega)]; omega
    rw [w]
    refine ev_neg c0 (ev_pos (by omega) (ev_pos (by omega) ?_))
    have rl : rd_T27 (I ++ [t]) (I.length : Int) = t := by
      have := rd_app I [t] 0
      rw [Nat.add_zero] at this
      rw [this]
      rfl
    rw [rl]
    by_cases c1 : t.f0 = 0
    · have all := cut I t rfl c1
      rw [all] at e3 lA
      refine Ev.step (fun _ => seichelaw11_GolexParts.j1.eq_2 ..) (ev_neg (by rw [c1]; decide) (ev_pos (by omega) (ev_pos (by omega) (ev_call (ev_eq e3) ?_))))
      have la : (I ++ M.map (shift (a.size + 1))).length = I.length + M.length := by rw [List.length_append, List.length_map]
      rw [la] at lA
      rw [w, la]
      have w2 : wrap64 ((I.length : Int) + (M.length : Int)) = ((I.length + M.length : Nat) : Int) := by rw [w64 (by omega) (by omega)]; omega
      refine ev_pos w2.symm (ev_pos (Int.natCast_nonneg _) (ev_pos (Int.ofNat_le.2 (Nat.le_add_right _ _)) (ev_pos (Int.ofNat_le.2 (by rw [ln]; exact Nat.le_succ _)) ?_)))
      rw [Int.toNat_natCast, List.take_left, List.take_left]
      refine ev_call (same_ev I I true ⟨fun _ => rfl, fun _ => rfl⟩ (by omega)) ?_
      exact Ev.step (fun _ => seichelaw11_GolexParts.j2.eq_2 ..) (ev_neg Bool.false_ne_true (parts_l0 ha (by omega) lM atM _ 0 (Nat.le_refl _) (Nat.zero_le _)))
    · exact skip _ (by simpa using c1)
theorem GolexParts : seichelaw11_GolexParts.Pure := by
  intro a b _ _
  suffices h : Ev (fun k => seichelaw11_GolexParts.f k a b) true by
    obtain ⟨K, hk⟩ := h
    exact ⟨K, hk K (Nat.le_refl _)⟩
  unfold seichelaw11_GolexParts.f
  refine ev_call (ev_eq alive_true) (ev_pos rfl ?_)
  have yes : Ev (fun k => seichelaw11_GolexParts.j0 k a b true) true := Ev.step (fun _ => seichelaw11_GolexParts.j0.eq_2 ..) (ev_pos rfl (ev_ret rfl))
  by_cases c1 : (a.size : Int) > 1024
  · exact ev_pos c1 yes
  refine ev_neg c1 ?_
  by_cases c2 : (b.size : Int) > 1024
  · exact ev_pos c2 yes
  refine ev_neg c2 (ev_call (ev_eq (skip_f b)) ?_)
  refine parts_j0 a b (by omega) (by omega) _ ?_
  intro h
  rw [decide_eq_false_iff_not] at h
  omega
end Go.Proofs.YtfolmcfcmonkhaaDoor.Pure
