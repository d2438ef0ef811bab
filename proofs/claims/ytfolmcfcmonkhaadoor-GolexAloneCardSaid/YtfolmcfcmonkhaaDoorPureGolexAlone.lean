/- GolexAlone: the law's loop over the tokens answers true. -/
import Derived.Test.YtfolmcfcmonkhaaDoorPAllx7
import Derived.Test.YtfolmcfcmonkhaaDoorLyAlone
namespace Go.Proofs.YtfolmcfcmonkhaaDoor.Pure
open Go Go.RowKit Go.Proofs.YtfolmcfcmonkhaaDoor.PAll Go.Proofs.YtfolmcfcmonkhaaDoor.Fr Go.Proofs.YtfolmcfcmonkhaaDoorW.PrintWords Go.Proofs.YtfolmcfcmonkhaaDoorW.PrintLast Go.Proofs.YtfolmcfcmonkhaaDoorPw Go.Proofs.YtfolmcfcmonkhaaDoor
set_option linter.unusedVariables false
set_option linter.unusedSimpArgs false
theorem alone_l0 {T : List S27} {m : Nat} (hm : m ≤ 1024) (hT : T.length ≤ 9000000) (hW : ∀ t ∈ T, t.f1.toList = ([] : List UInt8) ∨ ∃ x r, Byt (x ++ r) ∧ t.f1 = strOfNums x ∧ next (x ++ r) = .tok t.f0 x.length ∧ x.length ≤ m) :
    ∀ (n j : Nat), T.length - j ≤ n → j ≤ T.length → Ev (fun k => seichelaw11_GolexAlone.l0 k T (T.length : Int) (j : Int)) true
  | n, j, hn, hj => by
    refine Ev.step (fun _ => seichelaw11_GolexAlone.l0.eq_2 ..) ?_
    by_cases c : j < T.length
    · have hn' : n ≠ 0 := by omega
      obtain ⟨k, rfl⟩ := Nat.exists_eq_succ_of_ne_zero hn'
      have w : wrap64 ((j : Int) + 1) = ((j + 1 : Nat) : Int) := by rw [w64 (by omega) (by omega)]; omega
      have ih := alone_l0 hm hT hW k (j + 1) (by omega) (by omega)
      rw [← w] at ih
      have ht : rd_T27 T (j : Int) ∈ T := by
        have := rd_cons T j c
        exact List.mem_of_mem_drop (this ▸ List.mem_cons_self)
      refine ev_pos (by omega) (ev_pos (by omega) (ev_pos (by omega) ?_))
      generalize rd_T27 T (j : Int) = t at ht ⊢
      by_cases c1 : t.f1.toList = ([] : List UInt8)
      · exact ev_pos c1 ih
      rcases hW t ht with h | ⟨x, r, hb, e1, h, hl⟩
      · exact absurd h c1
      obtain ⟨b, e2⟩ := alone hb h
      have sx := str_size (byt_left hb)
      have s1 : ((⟨#[32]⟩ : ByteArray) ++ t.f1).size = 1 + x.length := by rw [ByteArray.size_append, e1, sx]; rfl
      have s2 : (((⟨#[32]⟩ : ByteArray) ++ t.f1) ++ (⟨#[32]⟩ : ByteArray)).size = 1 + x.length + 1 := by rw [ByteArray.size_append, s1]; rfl
      have e3 : golex_Lex.f (((⟨#[32]⟩ : ByteArray) ++ t.f1) ++ (⟨#[32]⟩ : ByteArray)) = some (⟨t.f0, t.f1, 1⟩ :: (semi b (x.length + 2) ++ [⟨0, (⟨#[]⟩ : ByteArray), ((x.length + 2 : Nat) : Int)⟩])) := by
        unfold golex_Lex.f
        rw [if_pos (by omega), e1, e2]
      have sl := semi_len b (x.length + 2)
      refine ev_neg c1 (ev_pos (by rw [e1, sx]; omega) (ev_pos (by omega) (ev_call (ev_eq e3) ?_)))
      have ln : (⟨t.f0, t.f1, 1⟩ :: (semi b (x.length + 2) ++ [(⟨0, (⟨#[]⟩ : ByteArray), ((x.length + 2 : Nat) : Int)⟩ : S27)])).length = (semi b (x.length + 2)).length + 2 := by simp
      have la : rd_T27 (⟨t.f0, t.f1, 1⟩ :: (semi b (x.length + 2) ++ [(⟨0, (⟨#[]⟩ : ByteArray), ((x.length + 2 : Nat) : Int)⟩ : S27)])) (((semi b (x.length + 2)).length + 1 : Nat) : Int) = ⟨0, (⟨#[]⟩ : ByteArray), ((x.length + 2 : Nat) : Int)⟩ := by
        unfold rd_T27
        rw [Int.toNat_natCast, List.getD_cons_succ, List.getD_eq_getElem?_getD, List.getElem?_append_right (Nat.le_refl _), Nat.sub_self]
        rfl
      have r0 : rd_T27 (⟨t.f0, t.f1, 1⟩ :: (semi b (x.length + 2) ++ [(⟨0, (⟨#[]⟩ : ByteArray), ((x.length + 2 : Nat) : Int)⟩ : S27)])) 0 = ⟨t.f0, t.f1, 1⟩ := rfl
      rw [ln, r0]
      have w2 : wrap64 ((((semi b (x.length + 2)).length + 2 : Nat) : Int) - 1) = (((semi b (x.length + 2)).length + 1 : Nat) : Int) := by rw [w64 (by omega) (by omega)]; omega
      rw [w2, la]
      refine ev_neg (by omega) (ev_pos (by omega) (ev_neg (by simp) (ev_pos (by omega) (ev_pos (by omega) (ev_pos rfl (ev_neg (by omega) ih))))))
    · exact ev_neg (by omega) (ev_ret rfl)
theorem GolexAlone : seichelaw11_GolexAlone.Pure := by
  intro s _
  suffices h : Ev (fun k => seichelaw11_GolexAlone.f k s) true by
    obtain ⟨K, hk⟩ := h
    exact ⟨K, hk K (Nat.le_refl _)⟩
  unfold seichelaw11_GolexAlone.f
  refine ev_call (ev_eq alive_true) (ev_pos rfl ?_)
  by_cases c : (s.size : Int) > 1024
  · exact ev_pos c (ev_ret rfl)
  refine ev_neg c ?_
  have e : golex_Lex.f s = some (lexB s).1 := by unfold golex_Lex.f; rw [if_pos (by omega)]
  refine ev_call (ev_eq e) ?_
  refine alone_l0 (m := s.size) (by omega) (lex_len s (by omega)) (fun t ht => ?_) _ 0 (Nat.le_refl _) (Nat.zero_le _)
  have hb := byt_drop (byt_bytesOf s) (skp (bytesOf s))
  rcases Fr.written _ _ _ _ (Nat.le_refl _) hb t ht with h | ⟨x, r, h1, h2, h3, h4⟩
  · exact .inl h
  · exact .inr ⟨x, r, h1, h2, h3, by rw [List.length_drop, bytesOf_length] at h4; omega⟩
end Go.Proofs.YtfolmcfcmonkhaaDoor.Pure
