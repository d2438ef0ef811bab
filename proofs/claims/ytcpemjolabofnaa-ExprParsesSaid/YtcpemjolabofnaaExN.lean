/- The reference's Parse. -/
import Derived.Test.YtcpemjolabofnaaExM
namespace Go.Proofs.Ytcpemjolabofnaa.PAll
open Go Go.RowKit Go.Proofs.YtcpemjolabofnaaW.PrintWords Go.Proofs.YtcpemjolabofnaaW.PrintLast Go.Proofs.YtcpemjolabofnaaW.PrintMore Go.Proofs.YtcpemjolabofnaaMy Go.Proofs.Ytcpemjolabofnaa Go.Proofs.YtcpemjolabofnaaPw
set_option linter.unusedVariables false
set_option linter.unusedSimpArgs false
def seicheref13_Parse.f (a0 : ByteArray) : Option (List ByteArray × Int) :=
  if 1024 < a0.size then some ([], 3) else (rorF 2000 70 (pcsS a0, [], 0)).bind fun r => if r.1 = 0 then (if r.2.1 = [] then some (r.2.2.1, 0) else some ([], 4)) else some ([], r.1)
theorem IsR.made {w W : World} {v : Value} {L : List ByteArray} (hb : Below w.heap.size w W) (h : Kd.R Kd.string 9 W w.heap.size (fun _ => True) v L) : IsR w (W.alloc (.cells #[v, .slice none 0 0, .int .i64 0] 47 (0, 0))) W.heap.size L [] 0 := by
  obtain ⟨A, c, rfl, hl, _⟩ := Kd.R_reads h
  have hf := Kd.F_elderB (Kd.R_F h) W.heap.size (Nat.le_refl _)
  exact ⟨A, c, .slice none 0 0, blk_new _ _, hb.size, hl, Kd.F_alloc (Kd.F_mono hf (fun k hk => ⟨hk.2, by simp [Value.ownBlock]⟩)) _, Kd.R_nil _ _ _ _ _⟩
set_option maxHeartbeats 4000000 in
set_option maxRecDepth 100000 in
theorem seicheref13_Parse.calls (a0 : ByteArray) (r1 : List ByteArray) (r2 : Int) (w : World) (h : seicheref13_Parse.f a0 = some (r1, r2)) :
    Calls Try.prog 12 #[.string a0] w fun e w' => ∃ v0_ : Value, e = .returned (.tuple #[v0_, .int .i64 r2]) ∧ Kd.R Kd.string 9 w' w.heap.size (fun _ => True) v0_ r1 ∧ Below w.heap.size w w' := by
  unfold seicheref13_Parse.f at h
  by_cases c : 1024 < a0.size
  · rw [if_pos c] at h
    simp only [Option.some.injEq, Prod.mk.injEq] at h
    obtain ⟨rfl, rfl⟩ := h
    have c1 : decide (1024 < (a0.size : Int)) = true := decide_eq_true (by omega)
    clear c
    go_enter Try.func12, Try.ntmps12
    go_wp2
    go_ret2
    exact ⟨_, rfl, Kd.R_nil _ _ _ _ _, Below.refl _ _⟩
  · rw [if_neg c] at h
    have c1 : decide (1024 < (a0.size : Int)) = false := decide_eq_false (by omega)
    obtain ⟨K, hK⟩ := refPieces_ev a0 (by omega)
    have HK := Aside0.mk (hK K (Nat.le_refl _))
    clear c hK
    obtain ⟨L, hL⟩ : ∃ L, L = pcsS a0 := ⟨_, rfl⟩
    rw [← hL] at h HK
    clear hL
    obtain ⟨⟨e3, l3, O, d⟩, h3, h⟩ := Option.bind_eq_some_iff.mp h
    have H3 := Aside0.mk h3
    clear h3
    simp only at h
    by_cases c : e3 = 0
    · subst c
      rw [if_pos rfl] at h
      by_cases c2 : l3 = []
      · rw [if_pos c2] at h
        simp only [Option.some.injEq, Prod.mk.injEq] at h
        obtain ⟨rfl, rfl⟩ := h
        subst c2
        go_enter Try.func12, Try.ntmps12
        go_wp2_with (first | (go_at_call 21; refine (seicheref13_Pieces.calls K a0 L _ HK.out).mono ?_; rintro e w1 ⟨v0, rfl, hr, hb⟩; obtain ⟨A9, k9, e9⟩ := Kd.R_slice hr; subst e9; have HI := Aside0.mk (IsR.made hb hr); have HB := Aside0.mk (below_alloc hb (.cells #[.slice A9 L.length k9, .slice none 0 0, .int .i64 0] 47 (0, 0))); clear hr hb) | (go_at_call 22; refine (rorF_PR 2000 70 w1.heap.size L [] 0 0 [] O d w _ HI.out HB.out H3.out).mono ?_; rintro e w3 ⟨rfl, hi, hb⟩; clear HI HB; obtain ⟨A, c, ov, h0, h1, hc, hf, h2⟩ := hi; have q0 : w3.cell? ⟨w1.heap.size, 0, none⟩ = some (.slice A 0 c) := cellR_0 h0; have q1 := cellR_1 h0; have HB := Aside0.mk hb; have HI := Aside0.mk h2; clear h0 h1 hc hf h2 hb))
        go_ret2
        exact ⟨_, rfl, HI.out, HB.out⟩
      · rw [if_neg c2] at h
        simp only [Option.some.injEq, Prod.mk.injEq] at h
        obtain ⟨rfl, rfl⟩ := h
        have C2 := Aside0.mk c2
        clear c2
        go_enter Try.func12, Try.ntmps12
        go_wp2_with (first | (go_at_call 21; refine (seicheref13_Pieces.calls K a0 L _ HK.out).mono ?_; rintro e w1 ⟨v0, rfl, hr, hb⟩; obtain ⟨A9, k9, e9⟩ := Kd.R_slice hr; subst e9; have HI := Aside0.mk (IsR.made hb hr); have HB := Aside0.mk (below_alloc hb (.cells #[.slice A9 L.length k9, .slice none 0 0, .int .i64 0] 47 (0, 0))); clear hr hb) | (go_at_call 22; refine (rorF_PR 2000 70 w1.heap.size L [] 0 0 l3 O d w _ HI.out HB.out H3.out).mono ?_; rintro e w3 ⟨rfl, hi, hb⟩; clear HI HB; obtain ⟨A, c, ov, h0, h1, hc, hf, h2⟩ := hi; obtain ⟨n, hn⟩ : ∃ n : Nat, n = l3.length := ⟨_, rfl⟩; have q0 : w3.cell? ⟨w1.heap.size, 0, none⟩ = some (.slice A n c) := by { rw [hn]; exact cellR_0 h0 }; have cz : decide (0 < n) = true := decide_eq_true (by have := List.length_pos_iff.2 C2.out; omega); have HB := Aside0.mk hb; clear h0 h1 hc hf h2 hb hn))
        go_ret2
        exact ⟨_, rfl, Kd.R_nil _ _ _ _ _, HB.out⟩
    · rw [if_neg c] at h
      simp only [Option.some.injEq, Prod.mk.injEq] at h
      obtain ⟨rfl, rfl⟩ := h
      have cb : (e3 != 0) = true := bne_iff_ne.mpr c
      have cb2 : (e3 == 0) = false := beq_eq_false_iff_ne.mpr c
      clear c
      go_enter Try.func12, Try.ntmps12
      go_wp2_with (first | (go_at_call 21; refine (seicheref13_Pieces.calls K a0 L _ HK.out).mono ?_; rintro e w1 ⟨v0, rfl, hr, hb⟩; obtain ⟨A9, k9, e9⟩ := Kd.R_slice hr; subst e9; have HI := Aside0.mk (IsR.made hb hr); have HB := Aside0.mk (below_alloc hb (.cells #[.slice A9 L.length k9, .slice none 0 0, .int .i64 0] 47 (0, 0))); clear hr hb) | (go_at_call 22; refine (rorF_PR 2000 70 w1.heap.size L [] 0 e3 l3 O d w _ HI.out HB.out H3.out).mono ?_; rintro e w3 ⟨rfl, hi, hb⟩; clear HI HB; have HB := Aside0.mk hb; clear hi hb))
      go_ret2
      exact ⟨_, rfl, Kd.R_nil _ _ _ _ _, HB.out⟩
end Go.Proofs.Ytcpemjolabofnaa.PAll
