/- Parse. -/
import Derived.Test.YtcpemjolabofnaaExH
namespace Go.Proofs.Ytcpemjolabofnaa.PAll
open Go Go.RowKit Go.Proofs.YtcpemjolabofnaaW.PrintWords Go.Proofs.YtcpemjolabofnaaW.PrintLast Go.Proofs.YtcpemjolabofnaaW.PrintMore Go.Proofs.YtcpemjolabofnaaMy Go.Proofs.Ytcpemjolabofnaa Go.Proofs.YtcpemjolabofnaaPw
set_option linter.unusedVariables false
set_option linter.unusedSimpArgs false
def expr_Parse.f (a0 : ByteArray) : Option (List ByteArray × Int) :=
  if 1024 < a0.size then some ([], 3) else (orF 2000 70 (bytesOf a0, [], 0)).bind fun r => if r.1 = 0 then (if dropB r.2.1 = [] then some (r.2.2.1, 0) else some ([], 4)) else some ([], r.1)
set_option maxHeartbeats 4000000 in
set_option maxRecDepth 100000 in
theorem expr_Parse.calls (a0 : ByteArray) (r1 : List ByteArray) (r2 : Int) (w : World) (h : expr_Parse.f a0 = some (r1, r2)) :
    Calls Try.prog 11 #[.string a0] w fun e w' => ∃ v0_ : Value, e = .returned (.tuple #[v0_, .int .i64 r2]) ∧ Kd.R Kd.string 9 w' w.heap.size (fun _ => True) v0_ r1 ∧ Below w.heap.size w w' := by
  unfold expr_Parse.f at h
  by_cases c : 1024 < a0.size
  · rw [if_pos c] at h
    simp only [Option.some.injEq, Prod.mk.injEq] at h
    obtain ⟨rfl, rfl⟩ := h
    have c1 : decide (1024 < (a0.size : Int)) = true := decide_eq_true (by omega)
    clear c
    go_enter Try.func11, Try.ntmps11
    go_wp2
    go_ret2
    exact ⟨_, rfl, Kd.R_nil _ _ _ _ _, Below.refl _ _⟩
  · rw [if_neg c] at h
    have c1 : decide (1024 < (a0.size : Int)) = false := decide_eq_false (by omega)
    have hs : a0.size ≤ 4294967296 := by omega
    have HS := Aside0.mk hs
    clear c hs
    have HI := Aside0.mk (show IsP w (w.alloc (.cells #[.string a0, .int .i64 0, .slice none 0 0, .int .i64 0] 42 (0, 0))) w.heap.size a0 (bytesOf a0) [] 0 from ⟨0, Nat.zero_le _, rfl, .slice none 0 0, blk_new _ _, Nat.le_refl _, Kd.R_nil _ _ _ _ _⟩)
    have HB := Aside0.mk (show Below w.heap.size w (w.alloc (.cells #[.string a0, .int .i64 0, .slice none 0 0, .int .i64 0] 42 (0, 0))) from (Below.refl _ _).alloc (Nat.le_refl _) _)
    obtain ⟨⟨e3, l3, O, d⟩, h3, h⟩ := Option.bind_eq_some_iff.mp h
    have H3 := Aside0.mk h3
    clear h3
    simp only at h
    by_cases c : e3 = 0
    · subst c
      rw [if_pos rfl] at h
      by_cases c2 : dropB l3 = []
      · rw [if_pos c2] at h
        simp only [Option.some.injEq, Prod.mk.injEq] at h
        obtain ⟨rfl, rfl⟩ := h
        have C2 := Aside0.mk c2
        clear c2
        go_enter Try.func11, Try.ntmps11
        go_wp2_with (first | (go_at_call 19; refine (orF_PC a0 HS.out 2000 70 w.heap.size (bytesOf a0) [] 0 0 l3 O d w _ HI.out HB.out H3.out).mono ?_; rintro e w3 ⟨rfl, hi, hb⟩; clear HI HB; have HI := Aside0.mk hi; have HB := Aside0.mk hb; clear hi hb) | (go_at_call 20; refine (blanks_P w.heap.size a0 HS.out l3 O d w _ HI.out HB.out).mono ?_; rintro e w4 ⟨rfl, ⟨p, hp1, hp2, hi⟩, hb⟩; clear HI HB; obtain ⟨y, hy⟩ : ∃ y : Int, y = (p : Int) := ⟨_, rfl⟩; rw [← hy] at hi; have HI := Aside0.mk hi; have HB := Aside0.mk hb; clear hb; obtain ⟨ov, h0, h1, h2⟩ := hi; have q0 := cellS42_0 h0; have q1 := cellS42_1 h0; have q2 := cellS42_2 h0; have cz : decide (y < (a0.size : Int)) = false := decide_eq_false (by have e := congrArg List.length (hp2.symm.trans C2.out); rw [List.length_drop, bytesOf_length] at e; simp at e; omega); clear h0 h1 h2 hp1 hp2 hy))
        repeat (go_quiet (fail); try go_wp2)
        go_ret2
        obtain ⟨ov2, h0, h1, h2⟩ := HI.out
        have e : ov2 = ov := Option.some.inj ((cellS42_2 h0).symm.trans q2)
        subst e
        exact ⟨_, rfl, Kd.R_drewN h2 _, pw_below_drewN HB.out _⟩
      · rw [if_neg c2] at h
        simp only [Option.some.injEq, Prod.mk.injEq] at h
        obtain ⟨rfl, rfl⟩ := h
        have C2 := Aside0.mk c2
        clear c2
        go_enter Try.func11, Try.ntmps11
        go_wp2_with (first | (go_at_call 19; refine (orF_PC a0 HS.out 2000 70 w.heap.size (bytesOf a0) [] 0 0 l3 O d w _ HI.out HB.out H3.out).mono ?_; rintro e w3 ⟨rfl, hi, hb⟩; clear HI HB; have HI := Aside0.mk hi; have HB := Aside0.mk hb; clear hi hb) | (go_at_call 20; refine (blanks_P w.heap.size a0 HS.out l3 O d w _ HI.out HB.out).mono ?_; rintro e w4 ⟨rfl, ⟨p, hp1, hp2, hi⟩, hb⟩; clear HI HB; obtain ⟨y, hy⟩ : ∃ y : Int, y = (p : Int) := ⟨_, rfl⟩; rw [← hy] at hi; have HI := Aside0.mk hi; have HB := Aside0.mk hb; clear hb; obtain ⟨ov, h0, h1, h2⟩ := hi; have q0 := cellS42_0 h0; have q1 := cellS42_1 h0; have cz : decide (y < (a0.size : Int)) = true := decide_eq_true (by have hne : p ≠ a0.size := (fun e => C2.out (by rw [hp2, e]; exact List.drop_of_length_le (by rw [bytesOf_length]; exact Nat.le_refl _))); omega); clear h0 h1 h2 hp1 hp2 hy))
        repeat (go_quiet (fail); try go_wp2)
        go_ret2
        exact ⟨_, rfl, Kd.R_nil _ _ _ _ _, pw_below_drewN HB.out _⟩
    · rw [if_neg c] at h
      simp only [Option.some.injEq, Prod.mk.injEq] at h
      obtain ⟨rfl, rfl⟩ := h
      have cb : (e3 != 0) = true := bne_iff_ne.mpr c
      clear c
      go_enter Try.func11, Try.ntmps11
      go_wp2_with (first | (go_at_call 19; refine (orF_PC a0 HS.out 2000 70 w.heap.size (bytesOf a0) [] 0 e3 l3 O d w _ HI.out HB.out H3.out).mono ?_; rintro e w3 ⟨rfl, hi, hb⟩; clear HI HB; have HI := Aside0.mk hi; have HB := Aside0.mk hb; clear hi hb))
      go_ret2
      exact ⟨_, rfl, Kd.R_nil _ _ _ _ _, HB.out⟩
end Go.Proofs.Ytcpemjolabofnaa.PAll
