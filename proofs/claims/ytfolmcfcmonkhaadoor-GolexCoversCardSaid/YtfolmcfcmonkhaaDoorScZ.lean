/- golex.scan, Lex and Notes: a text is gone over to its end, or its first fault. -/
import Derived.Test.YtfolmcfcmonkhaaDoorScS
namespace Go.Proofs.YtfolmcfcmonkhaaDoor.PAll
open Go Go.RowKit Go.Proofs.YtfolmcfcmonkhaaDoorW.PrintWords Go.Proofs.YtfolmcfcmonkhaaDoorW.PrintLast Go.Proofs.YtfolmcfcmonkhaaDoorW.PrintMore Go.Proofs.YtfolmcfcmonkhaaDoorMy Go.Proofs.YtfolmcfcmonkhaaDoor
set_option linter.unusedVariables false
set_option linter.unusedSimpArgs false
theorem IsS36.new_ (w0 W : World) (s : ByteArray) (p : Int) (hb : w0.heap.size ≤ W.heap.size) : IsS36 w0 (W.alloc (.cells #[.string s, .int .i64 p, .slice none 0 0, .slice none 0 0] 36 (0, 0))) W.heap.size s p [] [] :=
  ⟨_, _, blk_new _ _, hb, Kd.R_nil .., Kd.R_nil ..⟩
def golex_scan.l0 : Nat → ByteArray → Int → List (S27) → List (S27) → Option (ByteArray × Int × List (S27) × List (S27))
  | 0, _, _, _, _ => none
  | k + 1, s, p, T, N => (golex_scanner_step.f k s p T N).bind fun u => if u.1 = true then golex_scan.l0 k u.2.1 u.2.2.1 u.2.2.2.1 u.2.2.2.2 else some (u.2.1, u.2.2.1, u.2.2.2.1, u.2.2.2.2)
def golex_scan.f (k : Nat) (s : ByteArray) : Option (ByteArray × Int × List (S27) × List (S27)) := (utf_Skip.f k s).bind fun p => golex_scan.l0 k s p [] []
set_option maxHeartbeats 8000000 in
set_option maxRecDepth 100000 in
theorem golex_scan.calls (k : Nat) (s : ByteArray) (r1 : ByteArray) (r2 : Int) (r3 r4 : List (S27)) (w : World) (hT : Tabs w) (h : golex_scan.f k s = some (r1, r2, r3, r4)) :
    Calls Tryd.prog 19 #[.string s] w fun e w' => ∃ g : Nat, e = .returned (.pointer (some ⟨g, 0, none⟩)) ∧ IsS36 w w' g r1 r2 r3 r4 ∧ Below w.heap.size w w' := by
  have hu36 := Tryd.underlying36
  have HT := Aside0.mk hT
  clear hT
  have HB := Aside0.mk (Below.refl w.heap.size w)
  replace h := Option.bind_eq_some_iff.mp h
  obtain ⟨p, A0, h⟩ := h
  have A1 := Aside0.mk A0
  have H' := Aside0.mk h
  clear h A0
  go_enter Tryd.func19, Tryd.ntmps19
  go_wp2_with (first | (go_at_call 24; refine (utf_Skip.calls k s p w HT.out A1.out).mono ?_; rintro e w2 ⟨rfl, hb⟩; have HB2 := Aside0.mk hb; clear HB; have HB := HB2; clear HB2))
  have HI0 := IsS36.new_ w w2 s p hb.size
  have HB2 := below_alloc hb (.cells #[.string s, .int .i64 p, .slice none 0 0, .slice none 0 0] 36 (0, 0))
  clear hb HB
  generalize w2.alloc (.cells #[.string s, .int .i64 p, .slice none 0 0, .slice none 0 0] 36 (0, 0)) = w3 at HI0 HB2 ⊢
  generalize w2.heap.size = gb at HI0 ⊢
  have HI := Aside0.mk HI0
  have HB := Aside0.mk HB2
  clear HI0 HB2
  go_loopg [] k (fun kq w' => ∃ (s1 : ByteArray) (p1 : Int) (T1 N1 : List S27), Aside0 (golex_scan.l0 kq s1 p1 T1 N1 = some (r1, r2, r3, r4)) ∧ Aside0 (kq ≤ k) ∧ Aside0 (IsS36 w w' gb s1 p1 T1 N1) ∧ Aside0 (Below w.heap.size w w'))
  case atStart => exact ⟨s, p, [], [], H', ⟨Nat.le_refl _⟩, HI, HB⟩
  case round =>
    clear H' HI HB
    obtain ⟨s1, p1, T1, N1, HA, HK1, HI, HB⟩ := hrel
    cases gk with
    | zero => exact absurd HA.out (by simp [golex_scan.l0])
    | succ k1 =>
      have H := HA.out
      clear HA
      simp only [golex_scan.l0] at H
      replace H := Option.bind_eq_some_iff.mp H
      obtain ⟨⟨t1, t2, t3, t4, t5⟩, A0, H⟩ := H
      have A2 := Aside0.mk A0
      clear A0
      dsimp only at H
      by_cases c1 : t1 = true
      · subst c1
        rw [if_pos rfl] at H
        have H' := Aside0.mk H
        clear H
        go_wp2_with (first | (go_at_call 25; refine (golex_scanner_step.calls k1 gb s1 p1 T1 N1 true t2 t3 t4 t5 w _ HT.out HI.out HB.out A2.out).mono ?_; rintro e w4 ⟨rfl, hi, hb, hk⟩))
        go_roundg k1
        case measure => have := HK1.out; omega
        case rel => exact ⟨t2, t3, t4, t5, H', ⟨by have := HK1.out; omega⟩, ⟨hi⟩, ⟨hb⟩⟩
      · replace c1 := Bool.eq_false_iff.mpr c1
        subst c1
        rw [if_neg (by decide)] at H
        simp only [Option.some.injEq, Prod.mk.injEq] at H
        obtain ⟨rfl, rfl, rfl, rfl⟩ := H
        go_wp2_with (first | (go_at_call 25; refine (golex_scanner_step.calls k1 gb s1 p1 T1 N1 false t2 t3 t4 t5 w _ HT.out HI.out HB.out A2.out).mono ?_; rintro e w4 ⟨rfl, hi, hb, hk⟩))
        go_ret
        exact ⟨gb, rfl, hi, hb⟩
set_option maxHeartbeats 8000000 in
set_option maxRecDepth 100000 in
theorem golex_Lex.walk (k : Nat) (s : ByteArray) (r1 : ByteArray) (r2 : Int) (r3 r4 : List (S27)) (w : World) (hT : Tabs w) (h : golex_scan.f k s = some (r1, r2, r3, r4)) :
    Calls Tryd.prog 11 #[.string s] w fun e w' => ∃ v0_ : Value, e = .returned v0_ ∧ Kd.R k27 27 w' w.heap.size (fun _ => True) v0_ r3 ∧ Below w.heap.size w w' := by
  go_enter Tryd.func11, Tryd.ntmps11
  go_wp2_with (first | (go_at_call 19; refine (golex_scan.calls k s r1 r2 r3 r4 w hT h).mono ?_; rintro e w2 ⟨g, rfl, hi, hb⟩; obtain ⟨tv, nv, h0, hg, h2, h3⟩ := hi; have c2 := cellS36_2 h0))
  go_ret
  exact ⟨tv, rfl, Kd.R_mono h2 (fun _ _ => trivial), hb⟩
set_option maxHeartbeats 8000000 in
set_option maxRecDepth 100000 in
theorem golex_Notes.walk (k : Nat) (s : ByteArray) (r1 : ByteArray) (r2 : Int) (r3 r4 : List (S27)) (w : World) (hT : Tabs w) (h : golex_scan.f k s = some (r1, r2, r3, r4)) :
    Calls Tryd.prog 14 #[.string s] w fun e w' => ∃ v0_ : Value, e = .returned v0_ ∧ Kd.R k27 27 w' w.heap.size (fun _ => True) v0_ r4 ∧ Below w.heap.size w w' := by
  go_enter Tryd.func14, Tryd.ntmps14
  go_wp2_with (first | (go_at_call 19; refine (golex_scan.calls k s r1 r2 r3 r4 w hT h).mono ?_; rintro e w2 ⟨g, rfl, hi, hb⟩; obtain ⟨tv, nv, h0, hg, h2, h3⟩ := hi; have c3 := cellS36_3 h0))
  go_ret
  exact ⟨nv, rfl, Kd.R_mono h3 (fun _ _ => trivial), hb⟩
end Go.Proofs.YtfolmcfcmonkhaaDoor.PAll
