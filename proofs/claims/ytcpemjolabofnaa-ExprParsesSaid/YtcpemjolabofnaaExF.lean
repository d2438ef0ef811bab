/- The parser's part: a tag, or what stands in brackets; and the induction over how deep. -/
import Derived.Test.YtcpemjolabofnaaExE
namespace Go.Proofs.Ytcpemjolabofnaa.PAll
open Go Go.RowKit Go.Proofs.YtcpemjolabofnaaW.PrintWords Go.Proofs.YtcpemjolabofnaaW.PrintLast Go.Proofs.YtcpemjolabofnaaW.PrintMore Go.Proofs.YtcpemjolabofnaaMy Go.Proofs.Ytcpemjolabofnaa Go.Proofs.YtcpemjolabofnaaPw
set_option linter.unusedVariables false
set_option linter.unusedSimpArgs false
theorem tag_f (x : Int) : expr_tag.f x = some (isT x) := by
  unfold expr_tag.f
  by_cases h1 : 97 ≤ x <;> by_cases h2 : x ≤ 122 <;> by_cases h3 : 65 ≤ x <;> by_cases h4 : x ≤ 90 <;> by_cases h5 : 48 ≤ x <;> by_cases h6 : x ≤ 57 <;> by_cases h7 : x = 95 <;> simp [isT, h1, h2, h3, h4, h5, h6, h7] <;> omega
theorem tw_step (s : ByteArray) (q : Nat) (h : q < s.size) : ((bytesOf s).drop q).takeWhile isT = if isT (bt s q) then bt s q :: ((bytesOf s).drop (q + 1)).takeWhile isT else [] := by
  rw [drop_bytes s q h, List.takeWhile_cons]
theorem dw_step (s : ByteArray) (q : Nat) (h : q < s.size) : ((bytesOf s).drop q).dropWhile isT = if isT (bt s q) then ((bytesOf s).drop (q + 1)).dropWhile isT else (bytesOf s).drop q := by
  rw [drop_bytes s q h, List.dropWhile_cons]
theorem tw_end (s : ByteArray) : ((bytesOf s).drop s.size).takeWhile isT = [] := by
  have : (bytesOf s).drop s.size = [] := List.drop_of_length_le (by rw [bytesOf_length]; exact Nat.le_refl _)
  rw [this]
  rfl
/-- From p to q there are signs of a tag, and behind q the rest of them. -/
def Run (s : ByteArray) (p q : Nat) : Prop := p ≤ q ∧ q ≤ s.size ∧ ((bytesOf s).drop p).takeWhile isT = bytesOf (s.extract p q) ++ ((bytesOf s).drop q).takeWhile isT ∧ ((bytesOf s).drop p).dropWhile isT = ((bytesOf s).drop q).dropWhile isT
theorem Run.refl (s : ByteArray) (p : Nat) (h : p ≤ s.size) : Run s p p := ⟨Nat.le_refl _, h, by rw [bytesOf_extract]; simp, rfl⟩
theorem Run.step {s : ByteArray} {p q : Nat} (h : Run s p q) (hq : q < s.size) (ht : isT (bt s q) = true) : Run s p (q + 1) := by
  obtain ⟨h1, h2, h3, h4⟩ := h
  refine ⟨by omega, hq, ?_, ?_⟩
  · rw [h3, tw_step s q hq, if_pos ht, bytesOf_extract, bytesOf_extract]
    have hl : q < (bytesOf s).length := by rw [bytesOf_length]; exact hq
    have e : (bytesOf s).take (q + 1) = (bytesOf s).take q ++ [bt s q] := by
      rw [List.take_succ_eq_append_getElem hl]
      congr 2
      have := bytesOf_getD s q
      rw [List.getD_eq_getElem?_getD, List.getElem?_eq_getElem hl] at this
      exact this
    rw [e, List.drop_append_of_le_length (by rw [List.length_take]; omega)]
    simp
  · rw [h4, dw_step s q hq, if_pos ht]
theorem Run.done {s : ByteArray} {p q : Nat} (h : Run s p q) (hn : ((bytesOf s).drop q).takeWhile isT = []) : ((bytesOf s).drop p).takeWhile isT = bytesOf (s.extract p q) ∧ ((bytesOf s).drop p).dropWhile isT = (bytesOf s).drop q := by
  obtain ⟨h1, h2, h3, h4⟩ := h
  refine ⟨by rw [h3, hn, List.append_nil], ?_⟩
  rw [h4]
  have := List.takeWhile_append_dropWhile (p := isT) (l := (bytesOf s).drop q)
  rw [hn] at this
  exact this
end Go.Proofs.Ytcpemjolabofnaa.PAll
