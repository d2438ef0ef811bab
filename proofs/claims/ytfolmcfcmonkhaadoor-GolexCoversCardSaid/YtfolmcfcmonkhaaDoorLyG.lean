/- What the laws' own helpers compute, in plain words. -/
import Derived.Test.YtfolmcfcmonkhaaDoorPAllx3
import Derived.Test.YtfolmcfcmonkhaaDoorLyA
namespace Go.Proofs.YtfolmcfcmonkhaaDoor.Fr
open Go Go.RowKit Go.Proofs.YtfolmcfcmonkhaaDoor.PAll Go.Proofs.YtfolmcfcmonkhaaDoorW.PrintWords Go.Proofs.YtfolmcfcmonkhaaDoorW.PrintLast Go.Proofs.YtfolmcfcmonkhaaDoorPw Go.Proofs.YtfolmcfcmonkhaaDoor
set_option linter.unusedVariables false
set_option linter.unusedSimpArgs false
theorem skip_f (s : ByteArray) : seicheref10_Skip.f s = some (skp (bytesOf s) : Int) := by
  unfold seicheref10_Skip.f skp
  have hl := bytesOf_length s
  rw [show utf 65279 = [239, 187, 191] by decide, pre_iff, hl]
  by_cases c : (s.size : Int) ≥ 3
  · rw [if_pos c, if_pos (by decide), if_pos c]
    have e : ((s.extract 0 3).toList = ([239, 187, 191] : List UInt8)) ↔ (bytesOf s).take 3 = [239, 187, 191] := by
      rw [ba_toList]
      have e1 : bytesOf (s.extract 0 3) = (bytesOf s).take 3 := by rw [bytesOf_extract, List.drop_zero]
      rw [← e1]
      constructor
      · intro h
        unfold bytesOf
        rw [h]
        rfl
      · intro h
        have : s.extract 0 3 = (⟨#[239, 187, 191]⟩ : ByteArray) := bytes_inj (by rw [h]; rfl)
        rw [this]
    by_cases c2 : (s.extract 0 3).toList = ([239, 187, 191] : List UInt8)
    · rw [if_pos c2, if_pos (decide_eq_true ⟨by show 3 ≤ s.size; omega, e.1 c2⟩)]
      rfl
    · rw [if_neg c2, if_neg (by rw [decide_eq_true_eq]; exact fun h => c2 (e.2 h.2))]
      rfl
  · rw [if_neg c, if_neg (by rw [decide_eq_true_eq]; rintro ⟨h, _⟩; have h : 3 ≤ s.size := h; omega)]
    rfl
theorem rd_mem {T : List S27} {j : Nat} (c : j < T.length) : rd_T27 T (j : Int) ∈ T := by
  have := rd_cons T j c
  exact List.mem_of_mem_drop (this ▸ List.mem_cons_self)
theorem rd_app (I M : List S27) (j : Nat) : rd_T27 (I ++ M) ((I.length + j : Nat) : Int) = rd_T27 M (j : Int) := by
  unfold rd_T27
  rw [Int.toNat_natCast, Int.toNat_natCast, List.getD_eq_getElem?_getD, List.getElem?_append_right (Nat.le_add_right _ _), Nat.add_sub_cancel_left, List.getD_eq_getElem?_getD]
end Go.Proofs.YtfolmcfcmonkhaaDoor.Fr

