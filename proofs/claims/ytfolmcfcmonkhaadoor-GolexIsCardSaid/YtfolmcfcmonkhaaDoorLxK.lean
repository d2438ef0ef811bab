/- golex.Keyword: whether a word stands in one of the two tables. -/
import Derived.Test.YtfolmcfcmonkhaaDoorLxZ
namespace Go.Proofs.YtfolmcfcmonkhaaDoor
open Go Go.RowKit Go.Proofs.YtfolmcfcmonkhaaDoorW.PrintWords
structure TabsK (w : World) : Prop where
  tabs : Tabs w
  others : VarIs 1 othersL w
theorem TabsK.below {w w1 : World} (h : TabsK w) (hb : Below w.heap.size w w1) : TabsK w1 := ⟨h.tabs.below hb, h.others.below hb⟩
theorem TabsK.tabs' {w w1 : World} (h : TabsK w) (hb : Below w.heap.size w w1) : Tabs w1 := h.tabs.below hb
end Go.Proofs.YtfolmcfcmonkhaaDoor
namespace Go.Proofs.YtfolmcfcmonkhaaDoor.PAll
open Go Go.RowKit Go.Proofs.YtfolmcfcmonkhaaDoorW.PrintWords Go.Proofs.YtfolmcfcmonkhaaDoorW.PrintLast Go.Proofs.YtfolmcfcmonkhaaDoorW.PrintMore Go.Proofs.YtfolmcfcmonkhaaDoorMy Go.Proofs.YtfolmcfcmonkhaaDoor
set_option linter.unusedVariables false
set_option linter.unusedSimpArgs false
def golex_Keyword.f (a0 : ByteArray) : Option (Bool) := some (Lib.containsS wordsL a0 || Lib.containsS othersL a0)
set_option maxHeartbeats 8000000 in
set_option maxRecDepth 100000 in
theorem golex_Keyword.calls (a0 : ByteArray) (r : Bool) (w : World) (hT : TabsK w) (h : golex_Keyword.f a0 = some r) : Calls Tryd.prog 17 #[.string a0] w fun e w' => e = .returned (.bool r) ∧ Below w.heap.size w w' := by
  obtain rfl := Option.some.inj h
  obtain ⟨R, o, cap, v1, v2⟩ := hT.tabs.words
  obtain ⟨R', o', cap', u1, u2⟩ := hT.others
  go_enter Tryd.func17, Tryd.ntmps17
  by_cases a : Lib.containsS wordsL a0 = true
  · rw [a, Bool.true_or]
    go_wp2_with (first | (go_at_call 23; refine (Tryd.slices_Contains_string R o wordsL.length cap wordsL a0 w (Nat.le_refl _) (by decide) v2).mono ?_; rintro e w2 ⟨rfl, hw2⟩; rw [hw2]; clear hw2; simp only [List.take_length, a]))
    go_ret
    exact ⟨rfl, Below.refl _ _⟩
  · have a' := Bool.eq_false_iff.mpr a
    rw [a', Bool.false_or]
    go_wp2_with (first | (go_at_call 23; refine (Tryd.slices_Contains_string R o wordsL.length cap wordsL a0 w (Nat.le_refl _) (by decide) v2).mono ?_; rintro e w2 ⟨rfl, hw2⟩; rw [hw2]; clear hw2; simp only [List.take_length, a']) | (go_at_call 23; refine (Tryd.slices_Contains_string R' o' othersL.length cap' othersL a0 w (Nat.le_refl _) (by decide) u2).mono ?_; rintro e w2 ⟨rfl, hw2⟩; rw [hw2]; clear hw2; simp only [List.take_length]))
    go_ret
    exact ⟨rfl, Below.refl _ _⟩
end Go.Proofs.YtfolmcfcmonkhaaDoor.PAll
