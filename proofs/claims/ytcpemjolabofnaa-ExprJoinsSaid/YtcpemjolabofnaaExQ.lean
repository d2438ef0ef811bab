/- The parser's list: parts with a sign between, whatever function reads a part. -/
import Derived.Test.YtcpemjolabofnaaExC
import Derived.Shelf.Abstract
namespace Go.Proofs.Ytcpemjolabofnaa.PAll
open Go Go.RowKit Go.Proofs.YtcpemjolabofnaaW.PrintWords Go.Proofs.YtcpemjolabofnaaW.PrintLast Go.Proofs.YtcpemjolabofnaaW.PrintMore Go.Proofs.YtcpemjolabofnaaMy Go.Proofs.Ytcpemjolabofnaa Go.Proofs.YtcpemjolabofnaaPw
set_option linter.unusedVariables false
set_option linter.unusedSimpArgs false
def listL (sg : ByteArray) (F : St → Option (Int × St)) : Nat → St → Option (Int × St)
  | 0, _ => none
  | k + 1, x => if (tk (bytesOf sg) x.1).1 = true then (F ((tk (bytesOf sg) x.1).2, x.2.1, x.2.2)).bind fun r => (if r.1 = 0 then (if r.2.2.1.length < 4398046511104 then listL sg F k (r.2.1, r.2.2.1 ++ [sg], r.2.2.2) else none) else some r) else some (0, (tk (bytesOf sg) x.1).2, x.2.1, x.2.2)
def listF (sg : ByteArray) (F : St → Option (Int × St)) (k : Nat) (x : St) : Option (Int × St) := (F x).bind fun r => if r.1 = 0 then listL sg F k r.2 else some r
/-- What the function fn does to a parser, as F tells. -/
def PC (s : ByteArray) (fn : Nat) (F : St → Option (Int × St)) : Prop := ∀ (g : Nat) (l : List Int) (O : List ByteArray) (d : Int) (e1 : Int) (l1 : List Int) (O1 : List ByteArray) (d1 : Int) (w0 w : World), IsP w0 w g s l O d → Below w0.heap.size w0 w → F (l, O, d) = some (e1, l1, O1, d1) →
  Calls Try.prog fn #[.pointer (some ⟨g, 0, none⟩)] w fun e w' => e = .returned (.int .i64 e1) ∧ IsP w0 w' g s l1 O1 d1 ∧ Below w0.heap.size w0 w'
theorem takes_Q (g : Nat) (s : ByteArray) (hs : s.size ≤ 4294967296) (a : ByteArray) (ha : a.size ≤ 4294967296) (l : List Int) (O : List ByteArray) (d : Int) (b : Bool) (l2 : List Int) (ht : tk (bytesOf a) l = (b, l2)) (w0 w : World) (hI : IsP w0 w g s l O d) (hB : Below w0.heap.size w0 w) :
    Calls Try.prog 34 #[.pointer (some ⟨g, 0, none⟩), .string a] w fun e w' => e = .returned (.bool b) ∧ IsP w0 w' g s l2 O d ∧ Below w0.heap.size w0 w' := by
  have h := takes_P g s hs a ha l O d w0 w hI hB
  rw [ht] at h
  exact h
set_option maxHeartbeats 4000000 in
set_option maxRecDepth 100000 in
theorem list_PC (s : ByteArray) (hs : s.size ≤ 4294967296) (fn : Nat) (F : St → Option (Int × St)) (he : ∀ (args : Array Value) (w : World), (callFunc fn args).run Try.prog w = .ok (.enter fn args) w) (hF : PC s fn F)
    (sg : ByteArray) (hsg : sg.size ≤ 4294967296) (k : Nat) (g : Nat) (l : List Int) (O : List ByteArray) (d : Int) (re : Int) (rl : List Int) (rO : List ByteArray) (rd : Int) (w0 w : World) (hI : IsP w0 w g s l O d) (hB : Below w0.heap.size w0 w) (h : listF sg F k (l, O, d) = some (re, rl, rO, rd)) :
    Calls Try.prog 28 #[.pointer (some ⟨g, 0, none⟩), .string sg, .func (.func fn) #[.pointer (some ⟨g, 0, none⟩)] #[]] w fun e w' => e = .returned (.int .i64 re) ∧ IsP w0 w' g s rl rO rd ∧ Below w0.heap.size w0 w' := by
  have hu := Try.underlying24
  have HI := Aside0.mk hI
  have HB := Aside0.mk hB
  have HF := Aside0.mk hF
  clear hI hB hF
  obtain ⟨⟨e1, l1, O1, d1⟩, h1, h⟩ := Option.bind_eq_some_iff.mp h
  have H1 := Aside0.mk h1
  clear h1
  by_cases c : e1 = 0
  · subst c
    rw [if_pos rfl] at h
    have H := Aside0.mk h
    clear h
    go_enter Try.func28, Try.ntmps28
    go_wp2_with (first | (go_at_fn fn; refine (HF.out g l O d 0 l1 O1 d1 w0 _ HI.out HB.out H1.out).mono ?_; rintro e w2 ⟨rfl, hi, hb⟩; clear HI HB; have HI := Aside0.mk hi; have HB := Aside0.mk hb; clear hi hb))
    go_loopg [] k (fun kq w' => ∃ (l' : List Int) (O' : List ByteArray) (d' : Int), Aside0 (listL sg F kq (l', O', d') = some (re, rl, rO, rd)) ∧ Aside0 (IsP w0 w' g s l' O' d') ∧ Aside0 (Below w0.heap.size w0 w'))
    case atStart => exact ⟨l1, O1, d1, H, HI, HB⟩
    case round =>
      clear H HI HB H1
      obtain ⟨l', O', d', HA, HI, HB⟩ := hrel
      cases gk with
      | zero => exact absurd HA.out (by simp [listL])
      | succ k1 =>
        have h := HA.out
        clear HA
        simp only [listL] at h
        obtain ⟨b, l2, ht⟩ : ∃ b l2, tk (bytesOf sg) l' = (b, l2) := ⟨_, _, rfl⟩
        rw [ht] at h
        have HT := Aside0.mk ht
        clear ht
        cases b with
        | false =>
          rw [if_neg (by simp)] at h
          simp only [Option.some.injEq, Prod.mk.injEq] at h
          obtain ⟨rfl, rfl, rfl, rfl⟩ := h
          go_wp2_with (first | (go_at_call 34; refine (takes_Q g s hs sg hsg l' O' d' false l2 HT.out w0 _ HI.out HB.out).mono ?_; rintro e w2 ⟨rfl, hi, hb⟩; clear HI HB; have HI := Aside0.mk hi; have HB := Aside0.mk hb; clear hi hb))
          go_ret
          exact ⟨rfl, HI.out, HB.out⟩
        | true =>
          rw [if_pos rfl] at h
          obtain ⟨⟨e3, l3, O, d⟩, h3, h⟩ := Option.bind_eq_some_iff.mp h
          simp only at h3 h
          have H3 := Aside0.mk h3
          clear h3
          by_cases c : e3 = 0
          · subst c
            rw [if_pos rfl] at h
            by_cases c2 : O.length < 4398046511104
            · rw [if_pos c2] at h
              have H := Aside0.mk h
              clear h
              go_wp2_with (first | (go_at_call 34; refine (takes_Q g s hs sg hsg l' O' d' true l2 HT.out w0 _ HI.out HB.out).mono ?_; rintro e w2 ⟨rfl, hi, hb⟩; clear HI HB; have HI := Aside0.mk hi; have HB := Aside0.mk hb; clear hi hb) | (go_at_fn fn; refine (HF.out g l2 O' d' 0 l3 O d w0 _ HI.out HB.out H3.out).mono ?_; rintro e w2 ⟨rfl, ⟨p, hp1, hp2, ov, h0, h1, h2⟩, hb⟩; clear HI HB; have HB := Aside0.mk hb; clear hb; obtain ⟨A2, k2, e2⟩ := Kd.R_slice h2; subst e2; have q2 := cellS42_2 h0; have f2 := blk_frozen h0 2) | ((with_reducible refine gate_builtin (b := .append) (xs := #[.tmp 26, .tmp 28]) rfl ?_); (try (refine gate_guard (by rfl) ?_; dsimp only)); at_builtin; refine Kd.R_append Kd.string (w0 := w0) w0.heap.size rfl (.tmp 26) (.tmp 28) 24 9 (.string ⟨#[]⟩) 16 rfl Try.underlying24 info9 rfl (by decide) (by omega) (.slice A2 O.length k2) O (sg) [.string (sg)] (fun _ => True) (fun _ => False) rfl rfl ?aP (fun _ hk => hk.elim) ?aF ?aO ?aB ?aS ?aL ?_; (case aP => exact rfl); (case aB => exact HB.out); (case aF => intro k hk; trivial); (case aO => exact h2); (case aS => exact below_size HB.out); (case aL => omega); intro v1 w1 ho hb hg hat; obtain ⟨Az, kz, ez⟩ := Kd.R_slice ho; subst ez; simp only [List.length_append, List.length_cons, List.length_nil, Nat.zero_add] at ho hat; have b1 := blk_grown h0 hg (IsS42.ne h0 h2); have f1 := blk_frozen b1 2; have d1 : w1.cell? ⟨g, 2, none⟩ = some (.slice A2 O.length k2) := (blk_cell b1 2).trans rfl))
              go_roundg k1
              case rel => exact ⟨l3, O ++ [sg], d, H, ⟨p, hp1, hp2, IsS42.put h1 h0 h2 ho hg⟩, ⟨below_set hb h1⟩⟩
              case measure => omega
            · rw [if_neg c2] at h
              exact absurd h (by simp)
          · rw [if_neg c] at h
            simp only [Option.some.injEq, Prod.mk.injEq] at h
            obtain ⟨rfl, rfl, rfl, rfl⟩ := h
            have cb : (e3 != 0) = true := bne_iff_ne.mpr c
            clear c
            go_wp2_with (first | (go_at_call 34; refine (takes_Q g s hs sg hsg l' O' d' true l2 HT.out w0 _ HI.out HB.out).mono ?_; rintro e w2 ⟨rfl, hi, hb⟩; clear HI HB; have HI := Aside0.mk hi; have HB := Aside0.mk hb; clear hi hb) | (go_at_fn fn; refine (HF.out g l2 O' d' e3 l3 O d w0 _ HI.out HB.out H3.out).mono ?_; rintro e w2 ⟨rfl, hi, hb⟩; clear HI HB; have HI := Aside0.mk hi; have HB := Aside0.mk hb; clear hi hb))
            go_ret
            exact ⟨rfl, HI.out, HB.out⟩
  · rw [if_neg c] at h
    simp only [Option.some.injEq, Prod.mk.injEq] at h
    obtain ⟨rfl, rfl, rfl, rfl⟩ := h
    have cb : (e1 != 0) = true := bne_iff_ne.mpr c
    clear c
    go_enter Try.func28, Try.ntmps28
    go_wp2_with (first | (go_at_fn fn; refine (HF.out g l O d e1 l1 O1 d1 w0 _ HI.out HB.out H1.out).mono ?_; rintro e w2 ⟨rfl, hi, hb⟩; clear HI HB; have HI := Aside0.mk hi; have HB := Aside0.mk hb; clear hi hb))
    go_ret
    exact ⟨rfl, HI.out, HB.out⟩
end Go.Proofs.Ytcpemjolabofnaa.PAll
/- The parser's and, or, not and part: one induction. -/
namespace Go.Proofs.Ytcpemjolabofnaa.PAll
open Go Go.RowKit Go.Proofs.YtcpemjolabofnaaW.PrintWords Go.Proofs.YtcpemjolabofnaaW.PrintLast Go.Proofs.YtcpemjolabofnaaW.PrintMore Go.Proofs.YtcpemjolabofnaaMy Go.Proofs.Ytcpemjolabofnaa Go.Proofs.YtcpemjolabofnaaPw
set_option linter.unusedVariables false
set_option linter.unusedSimpArgs false
def sNot : ByteArray := ⟨#[33]⟩
def sAnd : ByteArray := ⟨#[38, 38]⟩
def sOr : ByteArray := ⟨#[124, 124]⟩
def sOpen : ByteArray := ⟨#[40]⟩
def sShut : ByteArray := ⟨#[41]⟩
def notF (F : St → Option (Int × St)) (x : St) : Option (Int × St) :=
  if (tk (bytesOf sNot) x.1).1 = true then
    (if (tk (bytesOf sNot) (tk (bytesOf sNot) x.1).2).1 = true then some (4, (tk (bytesOf sNot) (tk (bytesOf sNot) x.1).2).2, x.2.1, x.2.2)
    else (F ((tk (bytesOf sNot) (tk (bytesOf sNot) x.1).2).2, x.2.1, x.2.2)).bind fun r => if r.1 = 0 then (if r.2.2.1.length < 4398046511104 then some (0, r.2.1, r.2.2.1 ++ [sNot], r.2.2.2) else none) else some r)
  else F ((tk (bytesOf sNot) x.1).2, x.2.1, x.2.2)
theorem or_PC (s : ByteArray) (hs : s.size ≤ 4294967296) (F : St → Option (Int × St)) (hF : PC s 29 F) (k : Nat) : PC s 19 (listF sOr F k) := by
  intro g l O d e1 l1 O1 d1 w0 w hI hB h
  have hl := list_PC s hs 29 F (enters_ Try.func29 (by kernel_rfl) (by kernel_rfl)) hF sOr (by decide) k g l O d e1 l1 O1 d1 w0 w hI hB h
  have HL := Aside0.mk hl
  clear hl h
  go_enter Try.func19, Try.ntmps19
  go_wp2_with (first | (go_at_call 28; refine HL.out.mono ?_; rintro e w2 ⟨rfl, hi, hb⟩))
  go_ret
  exact ⟨rfl, hi, hb⟩
theorem and_PC (s : ByteArray) (hs : s.size ≤ 4294967296) (F : St → Option (Int × St)) (hF : PC s 35 F) (k : Nat) : PC s 29 (listF sAnd F k) := by
  intro g l O d e1 l1 O1 d1 w0 w hI hB h
  have hl := list_PC s hs 35 F (enters_ Try.func35 (by kernel_rfl) (by kernel_rfl)) hF sAnd (by decide) k g l O d e1 l1 O1 d1 w0 w hI hB h
  have HL := Aside0.mk hl
  clear hl h
  go_enter Try.func29, Try.ntmps29
  go_wp2_with (first | (go_at_call 28; refine HL.out.mono ?_; rintro e w2 ⟨rfl, hi, hb⟩))
  go_ret
  exact ⟨rfl, hi, hb⟩
set_option maxHeartbeats 4000000 in
set_option maxRecDepth 100000 in
theorem not_PC (s : ByteArray) (hs : s.size ≤ 4294967296) (F : St → Option (Int × St)) (hF : PC s 37 F) : PC s 35 (notF F) := by
  intro g l O0 d0 re rl rO rd w0 w hI hB h
  have hu := Try.underlying24
  have HI := Aside0.mk hI
  have HB := Aside0.mk hB
  have HF := Aside0.mk hF
  clear hI hB hF
  have hz : (sNot).size ≤ 4294967296 := by decide
  unfold notF at h
  simp only at h
  obtain ⟨b, l1, ht⟩ : ∃ b l1, tk (bytesOf sNot) l = (b, l1) := ⟨_, _, rfl⟩
  rw [ht] at h
  simp only at h
  have HT := Aside0.mk ht
  clear ht
  cases b with
  | false =>
    rw [if_neg (by simp)] at h
    have H := Aside0.mk h
    clear h
    go_enter Try.func35, Try.ntmps35
    go_wp2_with (first | (go_at_call 34; refine (takes_Q g s hs sNot hz l O0 d0 false l1 HT.out w0 _ HI.out HB.out).mono ?_; rintro e w2 ⟨rfl, hi, hb⟩; clear HI HB; have HI := Aside0.mk hi; have HB := Aside0.mk hb; clear hi hb) | (go_at_call 37; refine (HF.out g l1 O0 d0 re rl rO rd w0 _ HI.out HB.out H.out).mono ?_; rintro e w2 ⟨rfl, hi, hb⟩; clear HI HB; have HI := Aside0.mk hi; have HB := Aside0.mk hb; clear hi hb))
    go_ret
    exact ⟨rfl, HI.out, HB.out⟩
  | true =>
    rw [if_pos rfl] at h
    obtain ⟨b, l2, ht⟩ : ∃ b l2, tk (bytesOf sNot) l1 = (b, l2) := ⟨_, _, rfl⟩
    rw [ht] at h
    simp only at h
    have HT2 := Aside0.mk ht
    clear ht
    cases b with
    | true =>
      rw [if_pos rfl] at h
      simp only [Option.some.injEq, Prod.mk.injEq] at h
      obtain ⟨rfl, rfl, rfl, rfl⟩ := h
      go_enter Try.func35, Try.ntmps35
      go_upto_region 3 with (first | (go_at_call 34; refine (takes_Q g s hs sNot hz l O0 d0 true l1 HT.out w0 _ HI.out HB.out).mono ?_; rintro e w2 ⟨rfl, hi, hb⟩; clear HI HB; have HI := Aside0.mk hi; have HB := Aside0.mk hb; clear hi hb))
      go_wp2_with (first | (go_at_call 34; refine (takes_Q g s hs sNot hz l1 O0 d0 true l2 HT2.out w0 _ HI.out HB.out).mono ?_; rintro e w2 ⟨rfl, hi, hb⟩; clear HI HB; have HI := Aside0.mk hi; have HB := Aside0.mk hb; clear hi hb))
      go_ret
      exact ⟨rfl, HI.out, HB.out⟩
    | false =>
      rw [if_neg (by simp)] at h
      obtain ⟨⟨e3, l3, O, d⟩, h3, h⟩ := Option.bind_eq_some_iff.mp h
      simp only at h3 h
      have H3 := Aside0.mk h3
      clear h3
      by_cases c : e3 = 0
      · subst c
        rw [if_pos rfl] at h
        by_cases c2 : O.length < 4398046511104
        · rw [if_pos c2] at h
          simp only [Option.some.injEq, Prod.mk.injEq] at h
          obtain ⟨rfl, rfl, rfl, rfl⟩ := h
          go_enter Try.func35, Try.ntmps35
          go_upto_region 3 with (first | (go_at_call 34; refine (takes_Q g s hs sNot hz l O0 d0 true l1 HT.out w0 _ HI.out HB.out).mono ?_; rintro e w2 ⟨rfl, hi, hb⟩; clear HI HB; have HI := Aside0.mk hi; have HB := Aside0.mk hb; clear hi hb))
          go_wp2_with (first | (go_at_call 34; refine (takes_Q g s hs sNot hz l1 O0 d0 false l2 HT2.out w0 _ HI.out HB.out).mono ?_; rintro e w2 ⟨rfl, hi, hb⟩; clear HI HB; have HI := Aside0.mk hi; have HB := Aside0.mk hb; clear hi hb) | (go_at_call 37; refine (HF.out g l2 O0 d0 0 l3 O d w0 _ HI.out HB.out H3.out).mono ?_; rintro e w2 ⟨rfl, ⟨p, hp1, hp2, ov, h0, h1, h2⟩, hb⟩; clear HI HB; have HB := Aside0.mk hb; clear hb; obtain ⟨A2, k2, e2⟩ := Kd.R_slice h2; subst e2; have q2 := cellS42_2 h0; have f2 := blk_frozen h0 2) | ((with_reducible refine gate_builtin (b := .append) (xs := #[.tmp 20, .tmp 21]) rfl ?_); (try (refine gate_guard (by rfl) ?_; dsimp only)); at_builtin; refine Kd.R_append Kd.string (w0 := w0) w0.heap.size rfl (.tmp 20) (.tmp 21) 24 9 (.string ⟨#[]⟩) 16 rfl Try.underlying24 info9 rfl (by decide) (by omega) (.slice A2 O.length k2) O (sNot) [.string (sNot)] (fun _ => True) (fun _ => False) rfl rfl ?aP (fun _ hk => hk.elim) ?aF ?aO ?aB ?aS ?aL ?_; (case aP => exact rfl); (case aB => exact HB.out); (case aF => intro k hk; trivial); (case aO => exact h2); (case aS => exact below_size HB.out); (case aL => omega); intro v1 w1 ho hb hg hat; obtain ⟨Az, kz, ez⟩ := Kd.R_slice ho; subst ez; simp only [List.length_append, List.length_cons, List.length_nil, Nat.zero_add] at ho hat; have b1 := blk_grown h0 hg (IsS42.ne h0 h2); have f1 := blk_frozen b1 2; have d1 : w1.cell? ⟨g, 2, none⟩ = some (.slice A2 O.length k2) := (blk_cell b1 2).trans rfl))
          go_ret
          exact ⟨rfl, ⟨p, hp1, hp2, IsS42.put h1 h0 h2 ho hg⟩, below_set hb h1⟩
        · rw [if_neg c2] at h
          exact absurd h (by simp)
      · rw [if_neg c] at h
        simp only [Option.some.injEq, Prod.mk.injEq] at h
        obtain ⟨rfl, rfl, rfl, rfl⟩ := h
        have cb : (e3 != 0) = true := bne_iff_ne.mpr c
        clear c
        go_enter Try.func35, Try.ntmps35
        go_upto_region 3 with (first | (go_at_call 34; refine (takes_Q g s hs sNot hz l O0 d0 true l1 HT.out w0 _ HI.out HB.out).mono ?_; rintro e w2 ⟨rfl, hi, hb⟩; clear HI HB; have HI := Aside0.mk hi; have HB := Aside0.mk hb; clear hi hb))
        go_wp2_with (first | (go_at_call 34; refine (takes_Q g s hs sNot hz l1 O0 d0 false l2 HT2.out w0 _ HI.out HB.out).mono ?_; rintro e w2 ⟨rfl, hi, hb⟩; clear HI HB; have HI := Aside0.mk hi; have HB := Aside0.mk hb; clear hi hb) | (go_at_call 37; refine (HF.out g l2 O0 d0 e3 l3 O d w0 _ HI.out HB.out H3.out).mono ?_; rintro e w2 ⟨rfl, hi, hb⟩; clear HI HB; have HI := Aside0.mk hi; have HB := Aside0.mk hb; clear hi hb))
        go_ret
        exact ⟨rfl, HI.out, HB.out⟩
end Go.Proofs.Ytcpemjolabofnaa.PAll
/- The parser's part: a tag, or what stands in brackets; and the induction over how deep. -/
namespace Go.Proofs.Ytcpemjolabofnaa.PAll
open Go Go.RowKit Go.Proofs.YtcpemjolabofnaaW.PrintWords Go.Proofs.YtcpemjolabofnaaW.PrintLast Go.Proofs.YtcpemjolabofnaaW.PrintMore Go.Proofs.YtcpemjolabofnaaMy Go.Proofs.Ytcpemjolabofnaa Go.Proofs.YtcpemjolabofnaaPw
set_option linter.unusedVariables false
set_option linter.unusedSimpArgs false
theorem tag_f (x : Int) : expr_tag.f x = some (isT x) := by
  unfold expr_tag.f
  by_cases h1 : 97 ≤ x <;> by_cases h2 : x ≤ 122 <;> by_cases h3 : 65 ≤ x <;> by_cases h4 : x ≤ 90 <;> by_cases h5 : 48 ≤ x <;> by_cases h6 : x ≤ 57 <;> by_cases h7 : x = 95 <;> simp [isT, h1, h2, h3, h4, h5, h6, h7] <;> omega
theorem tw_step (s : ByteArray) (q : Nat) (h : q < s.size) : ((bytesOf s).drop q).takeWhile isT = if isT (bt s q) then bt s q :: ((bytesOf s).drop (q + 1)).takeWhile isT else [] := by
  rw [drop_bytes s q h, List.takeWhile_cons]
theorem dw_step (s : ByteArray) (q : Nat) (h : q < s.size) : ((bytesOf s).drop q).dropWhile isT = if isT (bt s q) then ((bytesOf s).drop (q + 1)).dropWhile isT else (bytesOf s).drop q := by
  rw [drop_bytes s q h, List.dropWhile_cons]
theorem tw_end (s : ByteArray) : ((bytesOf s).drop s.size).takeWhile isT = [] := by
  have : (bytesOf s).drop s.size = [] := List.drop_of_length_le (by rw [bytesOf_length]; exact Nat.le_refl _)
  rw [this]
  rfl
/-- From p to q there are signs of a tag, and behind q the rest of them. -/
def Run (s : ByteArray) (p q : Nat) : Prop := p ≤ q ∧ q ≤ s.size ∧ ((bytesOf s).drop p).takeWhile isT = bytesOf (s.extract p q) ++ ((bytesOf s).drop q).takeWhile isT ∧ ((bytesOf s).drop p).dropWhile isT = ((bytesOf s).drop q).dropWhile isT
theorem Run.refl (s : ByteArray) (p : Nat) (h : p ≤ s.size) : Run s p p := ⟨Nat.le_refl _, h, by rw [bytesOf_extract]; simp, rfl⟩
theorem Run.step {s : ByteArray} {p q : Nat} (h : Run s p q) (hq : q < s.size) (ht : isT (bt s q) = true) : Run s p (q + 1) := by
  obtain ⟨h1, h2, h3, h4⟩ := h
  refine ⟨by omega, hq, ?_, ?_⟩
  · rw [h3, tw_step s q hq, if_pos ht, bytesOf_extract, bytesOf_extract]
    have hl : q < (bytesOf s).length := by rw [bytesOf_length]; exact hq
    have e : (bytesOf s).take (q + 1) = (bytesOf s).take q ++ [bt s q] := by
      rw [List.take_succ_eq_append_getElem hl]
      congr 2
      have := bytesOf_getD s q
      rw [List.getD_eq_getElem?_getD, List.getElem?_eq_getElem hl] at this
      exact this
    rw [e, List.drop_append_of_le_length (by rw [List.length_take]; omega)]
    simp
  · rw [h4, dw_step s q hq, if_pos ht]
theorem Run.done {s : ByteArray} {p q : Nat} (h : Run s p q) (hn : ((bytesOf s).drop q).takeWhile isT = []) : ((bytesOf s).drop p).takeWhile isT = bytesOf (s.extract p q) ∧ ((bytesOf s).drop p).dropWhile isT = (bytesOf s).drop q := by
  obtain ⟨h1, h2, h3, h4⟩ := h
  refine ⟨by rw [h3, hn, List.append_nil], ?_⟩
  rw [h4]
  have := List.takeWhile_append_dropWhile (p := isT) (l := (bytesOf s).drop q)
  rw [hn] at this
  exact this
end Go.Proofs.Ytcpemjolabofnaa.PAll
