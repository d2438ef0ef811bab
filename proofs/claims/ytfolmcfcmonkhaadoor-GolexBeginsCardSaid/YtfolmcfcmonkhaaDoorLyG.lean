/- What the laws' own helpers compute, in plain words. -/
import Derived.Test.YtfolmcfcmonkhaaDoorPAllx3
import Derived.Test.YtfolmcfcmonkhaaDoorLyA
namespace Go.Proofs.YtfolmcfcmonkhaaDoor.Fr
open Go Go.RowKit Go.Proofs.YtfolmcfcmonkhaaDoor.PAll Go.Proofs.YtfolmcfcmonkhaaDoorW.PrintWords Go.Proofs.YtfolmcfcmonkhaaDoorW.PrintLast Go.Proofs.YtfolmcfcmonkhaaDoorPw Go.Proofs.YtfolmcfcmonkhaaDoor
set_option linter.unusedVariables false
set_option linter.unusedSimpArgs false
theorem same_l0 : ∀ (n : Nat) (a b : List S27), a.length = b.length → ∀ (i : Nat) (v : Bool), (v = true ↔ a.drop i = b.drop i) → a.length - i ≤ n → i ≤ a.length → a.length ≤ 9000000 →
    Ev (fun k => seicheref11_Same.l0 k a b (a.length : Int) (i : Int)) v
  | n, a, b, hl, i, v, hv, hn, hi, hm => by
    refine Ev.step (fun _ => seicheref11_Same.l0.eq_2 ..) ?_
    by_cases h0 : a.length ≤ i
    · refine ev_neg (by omega) (ev_ret ?_)
      rw [List.drop_eq_nil_of_le h0, List.drop_eq_nil_of_le (by omega)] at hv
      exact (hv.2 rfl).symm
    have hn' : n ≠ 0 := by omega
    obtain ⟨m, rfl⟩ := Nat.exists_eq_succ_of_ne_zero hn'
    have w : wrap64 ((i : Int) + 1) = ((i + 1 : Nat) : Int) := by rw [w64 (by omega) (by omega)]; omega
    have ih := fun hh => same_l0 m a b hl (i + 1) v hh (by omega) (by omega) hm
    have ra := rd_cons a i (by omega)
    have rb := rd_cons b i (by omega)
    refine ev_pos (by omega) (ev_pos (by omega) (ev_pos (by omega) (ev_pos (by omega) ?_)))
    rw [ra, rb] at hv
    rw [w]
    generalize rd_T27 a (i : Int) = x at hv ⊢
    generalize rd_T27 b (i : Int) = y at hv ⊢
    rw [ba_beq]
    by_cases c : x = y
    · subst c
      refine ev_neg (by simp) (ih ?_)
      rw [hv]
      simp
    · refine ev_pos ?_ (ev_ret ?_)
      · cases x with | mk x0 x1 x2 => ?_
        cases y with | mk y0 y1 y2 => ?_
        simp only [S27.mk.injEq] at c
        simp only [Bool.or_eq_true, Bool.not_eq_true', beq_eq_false_iff_ne, decide_eq_false_iff_not]
        by_cases h1 : x0 = y0
        · by_cases h2 : x1 = y1
          · exact .inr (.inr (fun h3 => c ⟨h1, h2, h3⟩))
          · exact .inr (.inl h2)
        · exact .inl h1
      · rw [eq_comm, Bool.eq_false_iff]
        intro h
        exact c (List.head_eq_of_cons_eq (hv.1 h))
theorem same_ev (a b : List S27) (v : Bool) (hv : v = true ↔ a = b) (hm : a.length ≤ 9000000) : Ev (fun k => seicheref11_Same.f k a b) v := by
  unfold seicheref11_Same.f
  by_cases c : a.length = b.length
  · exact ev_pos (by omega) (same_l0 _ a b c 0 v hv (Nat.le_refl _) (Nat.zero_le _) hm)
  · refine ev_neg (by omega) (ev_ret ?_)
    rw [eq_comm, Bool.eq_false_iff]
    exact fun h => c (by rw [hv.1 h])
theorem skip_f (s : ByteArray) : seicheref10_Skip.f s = some (skp (bytesOf s) : Int) := by
  unfold seicheref10_Skip.f skp
  have hl := bytesOf_length s
  rw [show utf 65279 = [239, 187, 191] by decide, pre_iff, hl]
  by_cases c : (s.size : Int) ≥ 3
  · rw [if_pos c, if_pos (by decide), if_pos c]
    have e : ((s.extract 0 3).toList = ([239, 187, 191] : List UInt8)) ↔ (bytesOf s).take 3 = [239, 187, 191] := by
      rw [ba_toList]
      have e1 : bytesOf (s.extract 0 3) = (bytesOf s).take 3 := by rw [bytesOf_extract, List.drop_zero]
      rw [← e1]
      constructor
      · intro h
        unfold bytesOf
        rw [h]
        rfl
      · intro h
        have : s.extract 0 3 = (⟨#[239, 187, 191]⟩ : ByteArray) := bytes_inj (by rw [h]; rfl)
        rw [this]
    by_cases c2 : (s.extract 0 3).toList = ([239, 187, 191] : List UInt8)
    · rw [if_pos c2, if_pos (decide_eq_true ⟨by show 3 ≤ s.size; omega, e.1 c2⟩)]
      rfl
    · rw [if_neg c2, if_neg (by rw [decide_eq_true_eq]; exact fun h => c2 (e.2 h.2))]
      rfl
  · rw [if_neg c, if_neg (by rw [decide_eq_true_eq]; rintro ⟨h, _⟩; have h : 3 ≤ s.size := h; omega)]
    rfl
theorem rd_mem {T : List S27} {j : Nat} (c : j < T.length) : rd_T27 T (j : Int) ∈ T := by
  have := rd_cons T j c
  exact List.mem_of_mem_drop (this ▸ List.mem_cons_self)
theorem rd_app (I M : List S27) (j : Nat) : rd_T27 (I ++ M) ((I.length + j : Nat) : Int) = rd_T27 M (j : Int) := by
  unfold rd_T27
  rw [Int.toNat_natCast, Int.toNat_natCast, List.getD_eq_getElem?_getD, List.getElem?_append_right (Nat.le_add_right _ _), Nat.add_sub_cancel_left, List.getD_eq_getElem?_getD]
theorem rd_map (f : S27 → S27) {M : List S27} {j : Nat} (c : j < M.length) : rd_T27 (M.map f) (j : Int) = f (rd_T27 M (j : Int)) := by
  unfold rd_T27
  rw [Int.toNat_natCast, List.getD_eq_getElem?_getD, List.getD_eq_getElem?_getD, List.getElem?_map, List.getElem?_eq_getElem c]
  rfl
end Go.Proofs.YtfolmcfcmonkhaaDoor.Fr
