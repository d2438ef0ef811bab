/- The parser's part: what stands in brackets; the induction over how deep. -/
import Derived.Test.YtcpemjolabofnaaExG
namespace Go.Proofs.Ytcpemjolabofnaa.PAll
open Go Go.RowKit Go.Proofs.YtcpemjolabofnaaW.PrintWords Go.Proofs.YtcpemjolabofnaaW.PrintLast Go.Proofs.YtcpemjolabofnaaW.PrintMore Go.Proofs.YtcpemjolabofnaaMy Go.Proofs.Ytcpemjolabofnaa Go.Proofs.YtcpemjolabofnaaPw
set_option linter.unusedVariables false
set_option linter.unusedSimpArgs false
/-- A part, what stands in brackets being read by G. -/
def partG (G : St → Option (Int × St)) (x : St) : Option (Int × St) :=
  if (tk (bytesOf sOpen) x.1).1 = true then
    (if 0 ≤ x.2.2 ∧ x.2.2 ≤ 4294967296 then
      (if 64 < x.2.2 + 1 then some (8, (tk (bytesOf sOpen) x.1).2, x.2.1, x.2.2 + 1)
      else (G ((tk (bytesOf sOpen) x.1).2, x.2.1, x.2.2 + 1)).bind fun r => if r.1 = 0 then
        (if 0 ≤ r.2.2.2 ∧ r.2.2.2 ≤ 4294967296 then
          (if (tk (bytesOf sShut) r.2.1).1 = true then some (0, (tk (bytesOf sShut) r.2.1).2, r.2.2.1, r.2.2.2 - 1) else some (4, (tk (bytesOf sShut) r.2.1).2, r.2.2.1, r.2.2.2 - 1))
        else none)
      else some r)
    else none)
  else if (dropB (tk (bytesOf sOpen) x.1).2).takeWhile isT = [] then some (4, dropB (tk (bytesOf sOpen) x.1).2, x.2.1, x.2.2)
  else if x.2.1.length < 4398046511104 then some (0, (dropB (tk (bytesOf sOpen) x.1).2).dropWhile isT, x.2.1 ++ [strOfNums ((dropB (tk (bytesOf sOpen) x.1).2).takeWhile isT)], x.2.2)
  else none
set_option maxHeartbeats 8000000 in
set_option maxRecDepth 100000 in
theorem part_PC (s : ByteArray) (hs : s.size ≤ 4294967296) (G : St → Option (Int × St)) (hG : PC s 19 G) : PC s 37 (partG G) := by
  intro g l O0 d0 re rl rO rd w0 w hI hB h
  have hu := Try.underlying24
  have HI := Aside0.mk hI
  have HB := Aside0.mk hB
  have HG := Aside0.mk hG
  clear hI hB hG
  have hz : (sOpen).size ≤ 4294967296 := by decide
  have hz2 : (sShut).size ≤ 4294967296 := by decide
  unfold partG at h
  simp only at h
  obtain ⟨b, l1, ht⟩ : ∃ b l1, tk (bytesOf sOpen) l = (b, l1) := ⟨_, _, rfl⟩
  rw [ht] at h
  simp only at h
  have HT := Aside0.mk ht
  clear ht
  cases b with
  | true =>
    rw [if_pos rfl] at h
    by_cases c1 : 0 ≤ d0 ∧ d0 ≤ 4294967296
    · rw [if_pos c1] at h
      obtain ⟨c1a, c1b⟩ := c1
      have hw : wrap64 (d0 + 1) = d0 + 1 := w64 (by omega) (by omega)
      by_cases c2 : 64 < d0 + 1
      · rw [if_pos c2] at h
        have c2b : decide (64 < d0 + 1) = true := decide_eq_true c2
        clear c2
        simp only [Option.some.injEq, Prod.mk.injEq] at h
        obtain ⟨rfl, rfl, rfl, rfl⟩ := h
        go_enter Try.func37, Try.ntmps37
        go_wp2_with (first | (go_at_call 34; refine (takes_Q g s hs sOpen hz l O0 d0 true l1 HT.out w0 _ HI.out HB.out).mono ?_; rintro e w2 ⟨rfl, ⟨p, hp1, hp2, ov, h0, h1, h2⟩, hb⟩; clear HI HB; have HB := Aside0.mk hb; clear hb; have q3 := cellS42_3 h0; have f3 := blk_frozen h0 3))
        go_ret
        exact ⟨rfl, ⟨p, hp1, hp2, IsS42.set_3 ⟨ov, h0, h1, h2⟩ _⟩, below_set HB.out h1⟩
      · rw [if_neg c2] at h
        have c2b : decide (64 < d0 + 1) = false := decide_eq_false c2
        clear c2
        obtain ⟨⟨e3, l3, O, d⟩, h3, h⟩ := Option.bind_eq_some_iff.mp h
        simp only at h3 h
        have H3 := Aside0.mk h3
        clear h3
        by_cases c : e3 = 0
        · subst c
          rw [if_pos rfl] at h
          by_cases c3 : 0 ≤ d ∧ d ≤ 4294967296
          · rw [if_pos c3] at h
            obtain ⟨c3a, c3b⟩ := c3
            have hw2 : wrap64 (d - 1) = d - 1 := w64 (by omega) (by omega)
            obtain ⟨b, l4, ht⟩ : ∃ b l4, tk (bytesOf sShut) l3 = (b, l4) := ⟨_, _, rfl⟩
            rw [ht] at h
            simp only at h
            have HT2 := Aside0.mk ht
            clear ht
            cases b with
            | true =>
              rw [if_pos rfl] at h
              simp only [Option.some.injEq, Prod.mk.injEq] at h
              obtain ⟨rfl, rfl, rfl, rfl⟩ := h
              go_enter Try.func37, Try.ntmps37
              go_upto_region 9 with (first | (go_at_call 34; refine (takes_Q g s hs sOpen hz l O0 d0 true l1 HT.out w0 _ HI.out HB.out).mono ?_; rintro e w2 ⟨rfl, ⟨p, hp1, hp2, ov, h0, h1, h2⟩, hb⟩; clear HI HB; have HI := Aside0.mk (⟨p, hp1, hp2, IsS42.set_3 ⟨ov, h0, h1, h2⟩ (d0 + 1)⟩ : IsP w0 (w2.setCell ⟨g, 3, none⟩ (.int .i64 (d0 + 1))) g s l1 O0 (d0 + 1)); have HB := Aside0.mk (below_set hb h1 (j := 3) (v := .int .i64 (d0 + 1))); clear hb; have q3 := cellS42_3 h0; have f3 := blk_frozen h0 3; clear h1 h2 hp1) | (go_at_call 19; refine (HG.out g l1 O0 (d0 + 1) 0 l3 O d w0 _ HI.out HB.out H3.out).mono ?_; clear q3 f3 h0; rintro e w3 ⟨rfl, ⟨p, hp1, hp2, ov, h0, h1, h2⟩, hb⟩; clear HI HB; have HI := Aside0.mk (⟨p, hp1, hp2, IsS42.set_3 ⟨ov, h0, h1, h2⟩ (d - 1)⟩ : IsP w0 (w3.setCell ⟨g, 3, none⟩ (.int .i64 (d - 1))) g s l3 O (d - 1)); have HB := Aside0.mk (below_set hb h1 (j := 3) (v := .int .i64 (d - 1))); clear hb; have q3 := cellS42_3 h0; have f3 := blk_frozen h0 3; clear h1 h2 hp1))
              go_wp2_with (first | (go_at_call 34; refine (takes_Q g s hs sShut hz2 l3 O (d - 1) true l4 HT2.out w0 _ HI.out HB.out).mono ?_; rintro e w4 ⟨rfl, hi, hb⟩; clear HI HB; have HI := Aside0.mk hi; have HB := Aside0.mk hb; clear hi hb))
              go_ret
              exact ⟨rfl, HI.out, HB.out⟩
            | false =>
              rw [if_neg (by simp)] at h
              simp only [Option.some.injEq, Prod.mk.injEq] at h
              obtain ⟨rfl, rfl, rfl, rfl⟩ := h
              go_enter Try.func37, Try.ntmps37
              go_upto_region 9 with (first | (go_at_call 34; refine (takes_Q g s hs sOpen hz l O0 d0 true l1 HT.out w0 _ HI.out HB.out).mono ?_; rintro e w2 ⟨rfl, ⟨p, hp1, hp2, ov, h0, h1, h2⟩, hb⟩; clear HI HB; have HI := Aside0.mk (⟨p, hp1, hp2, IsS42.set_3 ⟨ov, h0, h1, h2⟩ (d0 + 1)⟩ : IsP w0 (w2.setCell ⟨g, 3, none⟩ (.int .i64 (d0 + 1))) g s l1 O0 (d0 + 1)); have HB := Aside0.mk (below_set hb h1 (j := 3) (v := .int .i64 (d0 + 1))); clear hb; have q3 := cellS42_3 h0; have f3 := blk_frozen h0 3; clear h1 h2 hp1) | (go_at_call 19; refine (HG.out g l1 O0 (d0 + 1) 0 l3 O d w0 _ HI.out HB.out H3.out).mono ?_; clear q3 f3 h0; rintro e w3 ⟨rfl, ⟨p, hp1, hp2, ov, h0, h1, h2⟩, hb⟩; clear HI HB; have HI := Aside0.mk (⟨p, hp1, hp2, IsS42.set_3 ⟨ov, h0, h1, h2⟩ (d - 1)⟩ : IsP w0 (w3.setCell ⟨g, 3, none⟩ (.int .i64 (d - 1))) g s l3 O (d - 1)); have HB := Aside0.mk (below_set hb h1 (j := 3) (v := .int .i64 (d - 1))); clear hb; have q3 := cellS42_3 h0; have f3 := blk_frozen h0 3; clear h1 h2 hp1))
              go_wp2_with (first | (go_at_call 34; refine (takes_Q g s hs sShut hz2 l3 O (d - 1) false l4 HT2.out w0 _ HI.out HB.out).mono ?_; rintro e w4 ⟨rfl, hi, hb⟩; clear HI HB; have HI := Aside0.mk hi; have HB := Aside0.mk hb; clear hi hb))
              go_ret
              exact ⟨rfl, HI.out, HB.out⟩
          · rw [if_neg c3] at h
            exact absurd h (by simp)
        · rw [if_neg c] at h
          simp only [Option.some.injEq, Prod.mk.injEq] at h
          obtain ⟨rfl, rfl, rfl, rfl⟩ := h
          have cb : (e3 != 0) = true := bne_iff_ne.mpr c
          clear c
          go_enter Try.func37, Try.ntmps37
          go_wp2_with (first | (go_at_call 34; refine (takes_Q g s hs sOpen hz l O0 d0 true l1 HT.out w0 _ HI.out HB.out).mono ?_; rintro e w2 ⟨rfl, ⟨p, hp1, hp2, ov, h0, h1, h2⟩, hb⟩; clear HI HB; have HI := Aside0.mk (⟨p, hp1, hp2, IsS42.set_3 ⟨ov, h0, h1, h2⟩ (d0 + 1)⟩ : IsP w0 (w2.setCell ⟨g, 3, none⟩ (.int .i64 (d0 + 1))) g s l1 O0 (d0 + 1)); have HB := Aside0.mk (below_set hb h1 (j := 3) (v := .int .i64 (d0 + 1))); clear hb; have q3 := cellS42_3 h0; have f3 := blk_frozen h0 3; clear h1 h2 hp1) | (go_at_call 19; refine (HG.out g l1 O0 (d0 + 1) e3 l3 O d w0 _ HI.out HB.out H3.out).mono ?_; clear q3 f3 h0; rintro e w3 ⟨rfl, hi, hb⟩; clear HI HB; have HI := Aside0.mk hi; have HB := Aside0.mk hb; clear hi hb))
          go_ret
          exact ⟨rfl, HI.out, HB.out⟩
    · rw [if_neg c1] at h
      exact absurd h (by simp)
  | false =>
    rw [if_neg (by simp)] at h
    exact part_tag s hs g l O0 d0 l1 re rl rO rd w0 w HI HB HT (Aside0.mk h)
/-- Brackets may stand within one another as often as n tells; lists have up to m signs. -/
def partF (m : Nat) : Nat → St → Option (Int × St)
  | 0 => fun _ => none
  | n + 1 => partG (listF sOr (listF sAnd (notF (partF m n)) m) m)
def orF (m n : Nat) : St → Option (Int × St) := listF sOr (listF sAnd (notF (partF m n)) m) m
theorem partF_PC (s : ByteArray) (hs : s.size ≤ 4294967296) (m : Nat) : ∀ n, PC s 37 (partF m n)
  | 0 => fun g l O d e1 l1 O1 d1 w0 w hI hB h => absurd h (by simp [partF])
  | n + 1 => part_PC s hs _ (or_PC s hs _ (and_PC s hs _ (not_PC s hs _ (partF_PC s hs m n)) m) m)
theorem orF_PC (s : ByteArray) (hs : s.size ≤ 4294967296) (m n : Nat) : PC s 19 (orF m n) := or_PC s hs _ (and_PC s hs _ (not_PC s hs _ (partF_PC s hs m n)) m) m
end Go.Proofs.Ytcpemjolabofnaa.PAll
