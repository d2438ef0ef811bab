/- GolexIs: the law answers true. -/
import Derived.Test.YtfolmcfcmonkhaaDoorPAllx14
import Derived.Test.YtfolmcfcmonkhaaDoorLyAll
namespace Go.Proofs.YtfolmcfcmonkhaaDoor.Pure
open Go Go.RowKit Go.Proofs.YtfolmcfcmonkhaaDoor.PAll Go.Proofs.YtfolmcfcmonkhaaDoor.Fr Go.Proofs.YtfolmcfcmonkhaaDoorW.PrintWords Go.Proofs.YtfolmcfcmonkhaaDoorW.PrintLast Go.Proofs.YtfolmcfcmonkhaaDoorPw Go.Proofs.YtfolmcfcmonkhaaDoor
set_option linter.unusedVariables false
set_option linter.unusedSimpArgs false
theorem notes_len (s : ByteArray) (hs : s.size ≤ 1048576) : (lexB s).2.length ≤ 9000000 := by
  have hk := skp_le (bytesOf s)
  have hl := bytesOf_length s
  have := lx_len _ _ (skp (bytesOf s)) false (byt_drop (byt_bytesOf s) (skp (bytesOf s))) (Nat.le_refl _)
  rw [List.length_drop] at this
  unfold lexB
  omega
theorem is_j0 (s : ByteArray) (hs : s.size ≤ 2048) (b : Bool) (hb : b = false) : Ev (fun k => seichelaw11_GolexIs.j0 k s (lexB s).1 (lexB s).2 b) true := by
  subst hb
  have h1 : s.size ≤ 1048576 := Nat.le_trans hs (by decide)
  have e1 : golex_Lex.f s = some (lexB s).1 := by unfold golex_Lex.f; rw [if_pos h1]
  have e2 : golex_Notes.f s = some (lexB s).2 := by unfold golex_Notes.f; rw [if_pos h1]
  refine Ev.step (fun _ => seichelaw11_GolexIs.j0.eq_2 ..) (ev_neg Bool.false_ne_true (ev_call (ev_eq e1) (ev_call (same_ev _ _ true ⟨fun _ => rfl, fun _ => rfl⟩ (lex_len s h1)) (ev_pos rfl (ev_call (ev_eq e2) ?_)))))
  exact ev_call (same_ev _ _ true ⟨fun _ => rfl, fun _ => rfl⟩ (notes_len s h1)) (ev_ret rfl)
theorem in_others (s : ByteArray) : Lib.containsS othersL s = true ↔ (s = ⟨#[98, 114, 101, 97, 107]⟩ ∨ s = ⟨#[99, 111, 110, 116, 105, 110, 117, 101]⟩ ∨ s = ⟨#[102, 97, 108, 108, 116, 104, 114, 111, 117, 103, 104]⟩ ∨ s = ⟨#[114, 101, 116, 117, 114, 110]⟩) := by
  rw [Lib.containsS_iff]
  unfold othersL
  simp only [List.mem_cons, List.not_mem_nil, or_false]
theorem GolexIs : seichelaw11_GolexIs.Pure := by
  intro s _
  suffices h : Ev (fun q => seichelaw11_GolexIs.f q s) true by
    obtain ⟨K, hk⟩ := h
    exact ⟨K, hk K (Nat.le_refl _)⟩
  unfold seichelaw11_GolexIs.f
  refine ev_call (ev_eq alive_true) (ev_pos rfl ?_)
  by_cases c1 : (s.size : Int) > 2048
  · exact ev_pos c1 (ev_ret rfl)
  have hs : s.size ≤ 2048 := by omega
  refine ev_neg c1 (ev_call (rlex_ev s (Nat.le_trans hs (by decide))) (ev_call (ev_eq rfl) (ev_call (open_ev s) ?_)))
  have key : ∀ x : ByteArray, (s.toList = x.toList) = (s = x) := fun x => by rw [eq_iff_iff]; exact ba_iff
  have mm := in_others s
  have k1 : (s.toList = ([98, 114, 101, 97, 107] : List UInt8)) = (s = ⟨#[98, 114, 101, 97, 107]⟩) := by rw [← key]; simp only [ba_toList]
  have k2 : (s.toList = ([99, 111, 110, 116, 105, 110, 117, 101] : List UInt8)) = (s = ⟨#[99, 111, 110, 116, 105, 110, 117, 101]⟩) := by rw [← key]; simp only [ba_toList]
  have k3 : (s.toList = ([102, 97, 108, 108, 116, 104, 114, 111, 117, 103, 104] : List UInt8)) = (s = ⟨#[102, 97, 108, 108, 116, 104, 114, 111, 117, 103, 104]⟩) := by rw [← key]; simp only [ba_toList]
  have k4 : (s.toList = ([114, 101, 116, 117, 114, 110] : List UInt8)) = (s = ⟨#[114, 101, 116, 117, 114, 110]⟩) := by rw [← key]; simp only [ba_toList]
  by_cases a : Lib.containsS wordsL s = true
  · exact ev_pos a (is_j0 s hs _ (by rw [a]; rfl))
  have a' := Bool.eq_false_iff.mpr a
  refine ev_neg a ?_
  rw [a', Bool.false_or]
  by_cases d1 : s = ⟨#[98, 114, 101, 97, 107]⟩
  · exact ev_pos (k1.mpr d1) (is_j0 s hs _ (by rw [mm.2 (.inl d1)]; rfl))
  refine ev_neg (fun h => d1 (k1.mp h)) ?_
  by_cases d2 : s = ⟨#[99, 111, 110, 116, 105, 110, 117, 101]⟩
  · exact ev_pos (k2.mpr d2) (is_j0 s hs _ (by rw [mm.2 (.inr (.inl d2))]; rfl))
  refine ev_neg (fun h => d2 (k2.mp h)) ?_
  by_cases d3 : s = ⟨#[102, 97, 108, 108, 116, 104, 114, 111, 117, 103, 104]⟩
  · exact ev_pos (k3.mpr d3) (is_j0 s hs _ (by rw [mm.2 (.inr (.inr (.inl d3)))]; rfl))
  refine ev_neg (fun h => d3 (k3.mp h)) (is_j0 s hs _ ?_)
  have e : (s.toList == ([114, 101, 116, 117, 114, 110] : List UInt8)) = Lib.containsS othersL s := by
    rw [Bool.eq_iff_iff, beq_iff_eq, k4, mm]
    exact ⟨fun h => .inr (.inr (.inr h)), fun h => (h.resolve_left d1).resolve_left d2 |>.resolve_left d3⟩
  rw [e]
  cases Lib.containsS othersL s <;> rfl
end Go.Proofs.YtfolmcfcmonkhaaDoor.Pure
