/- The parser's list: parts with a sign between, whatever function reads a part. -/
import Derived.Test.YtcpemjolabofnaaExC
import Derived.Shelf.Abstract
namespace Go.Proofs.Ytcpemjolabofnaa.PAll
open Go Go.RowKit Go.Proofs.YtcpemjolabofnaaW.PrintWords Go.Proofs.YtcpemjolabofnaaW.PrintLast Go.Proofs.YtcpemjolabofnaaW.PrintMore Go.Proofs.YtcpemjolabofnaaMy Go.Proofs.Ytcpemjolabofnaa Go.Proofs.YtcpemjolabofnaaPw
set_option linter.unusedVariables false
set_option linter.unusedSimpArgs false
def listL (sg : ByteArray) (F : St → Option (Int × St)) : Nat → St → Option (Int × St)
  | 0, _ => none
  | k + 1, x => if (tk (bytesOf sg) x.1).1 = true then (F ((tk (bytesOf sg) x.1).2, x.2.1, x.2.2)).bind fun r => (if r.1 = 0 then (if r.2.2.1.length < 4398046511104 then listL sg F k (r.2.1, r.2.2.1 ++ [sg], r.2.2.2) else none) else some r) else some (0, (tk (bytesOf sg) x.1).2, x.2.1, x.2.2)
def listF (sg : ByteArray) (F : St → Option (Int × St)) (k : Nat) (x : St) : Option (Int × St) := (F x).bind fun r => if r.1 = 0 then listL sg F k r.2 else some r
/-- What the function fn does to a parser, as F tells. -/
def PC (s : ByteArray) (fn : Nat) (F : St → Option (Int × St)) : Prop := ∀ (g : Nat) (l : List Int) (O : List ByteArray) (d : Int) (e1 : Int) (l1 : List Int) (O1 : List ByteArray) (d1 : Int) (w0 w : World), IsP w0 w g s l O d → Below w0.heap.size w0 w → F (l, O, d) = some (e1, l1, O1, d1) →
  Calls Try.prog fn #[.pointer (some ⟨g, 0, none⟩)] w fun e w' => e = .returned (.int .i64 e1) ∧ IsP w0 w' g s l1 O1 d1 ∧ Below w0.heap.size w0 w'
theorem takes_Q (g : Nat) (s : ByteArray) (hs : s.size ≤ 4294967296) (a : ByteArray) (ha : a.size ≤ 4294967296) (l : List Int) (O : List ByteArray) (d : Int) (b : Bool) (l2 : List Int) (ht : tk (bytesOf a) l = (b, l2)) (w0 w : World) (hI : IsP w0 w g s l O d) (hB : Below w0.heap.size w0 w) :
    Calls Try.prog 34 #[.pointer (some ⟨g, 0, none⟩), .string a] w fun e w' => e = .returned (.bool b) ∧ IsP w0 w' g s l2 O d ∧ Below w0.heap.size w0 w' := by
  have h := takes_P g s hs a ha l O d w0 w hI hB
  rw [ht] at h
  exact h
set_option maxHeartbeats 4000000 in
set_option maxRecDepth 100000 in
theorem list_PC (s : ByteArray) (hs : s.size ≤ 4294967296) (fn : Nat) (F : St → Option (Int × St)) (he : ∀ (args : Array Value) (w : World), (callFunc fn args).run Try.prog w = .ok (.enter fn args) w) (hF : PC s fn F)
    (sg : ByteArray) (hsg : sg.size ≤ 4294967296) (k : Nat) (g : Nat) (l : List Int) (O : List ByteArray) (d : Int) (re : Int) (rl : List Int) (rO : List ByteArray) (rd : Int) (w0 w : World) (hI : IsP w0 w g s l O d) (hB : Below w0.heap.size w0 w) (h : listF sg F k (l, O, d) = some (re, rl, rO, rd)) :
    Calls Try.prog 28 #[.pointer (some ⟨g, 0, none⟩), .string sg, .func (.func fn) #[.pointer (some ⟨g, 0, none⟩)] #[]] w fun e w' => e = .returned (.int .i64 re) ∧ IsP w0 w' g s rl rO rd ∧ Below w0.heap.size w0 w' := by
  have hu := Try.underlying24
  have HI := Aside0.mk hI
  have HB := Aside0.mk hB
  have HF := Aside0.mk hF
  clear hI hB hF
  obtain ⟨⟨e1, l1, O1, d1⟩, h1, h⟩ := Option.bind_eq_some_iff.mp h
  have H1 := Aside0.mk h1
  clear h1
  by_cases c : e1 = 0
  · subst c
    rw [if_pos rfl] at h
    have H := Aside0.mk h
    clear h
    go_enter Try.func28, Try.ntmps28
    go_wp2_with (first | (go_at_fn fn; refine (HF.out g l O d 0 l1 O1 d1 w0 _ HI.out HB.out H1.out).mono ?_; rintro e w2 ⟨rfl, hi, hb⟩; clear HI HB; have HI := Aside0.mk hi; have HB := Aside0.mk hb; clear hi hb))
    go_loopg [] k (fun kq w' => ∃ (l' : List Int) (O' : List ByteArray) (d' : Int), Aside0 (listL sg F kq (l', O', d') = some (re, rl, rO, rd)) ∧ Aside0 (IsP w0 w' g s l' O' d') ∧ Aside0 (Below w0.heap.size w0 w'))
    case atStart => exact ⟨l1, O1, d1, H, HI, HB⟩
    case round =>
      clear H HI HB H1
      obtain ⟨l', O', d', HA, HI, HB⟩ := hrel
      cases gk with
      | zero => exact absurd HA.out (by simp [listL])
      | succ k1 =>
        have h := HA.out
        clear HA
        simp only [listL] at h
        obtain ⟨b, l2, ht⟩ : ∃ b l2, tk (bytesOf sg) l' = (b, l2) := ⟨_, _, rfl⟩
        rw [ht] at h
        have HT := Aside0.mk ht
        clear ht
        cases b with
        | false =>
          rw [if_neg (by simp)] at h
          simp only [Option.some.injEq, Prod.mk.injEq] at h
          obtain ⟨rfl, rfl, rfl, rfl⟩ := h
          go_wp2_with (first | (go_at_call 34; refine (takes_Q g s hs sg hsg l' O' d' false l2 HT.out w0 _ HI.out HB.out).mono ?_; rintro e w2 ⟨rfl, hi, hb⟩; clear HI HB; have HI := Aside0.mk hi; have HB := Aside0.mk hb; clear hi hb))
          go_ret
          exact ⟨rfl, HI.out, HB.out⟩
        | true =>
          rw [if_pos rfl] at h
          obtain ⟨⟨e3, l3, O, d⟩, h3, h⟩ := Option.bind_eq_some_iff.mp h
          simp only at h3 h
          have H3 := Aside0.mk h3
          clear h3
          by_cases c : e3 = 0
          · subst c
            rw [if_pos rfl] at h
            by_cases c2 : O.length < 4398046511104
            · rw [if_pos c2] at h
              have H := Aside0.mk h
              clear h
              go_wp2_with (first | (go_at_call 34; refine (takes_Q g s hs sg hsg l' O' d' true l2 HT.out w0 _ HI.out HB.out).mono ?_; rintro e w2 ⟨rfl, hi, hb⟩; clear HI HB; have HI := Aside0.mk hi; have HB := Aside0.mk hb; clear hi hb) | (go_at_fn fn; refine (HF.out g l2 O' d' 0 l3 O d w0 _ HI.out HB.out H3.out).mono ?_; rintro e w2 ⟨rfl, ⟨p, hp1, hp2, ov, h0, h1, h2⟩, hb⟩; clear HI HB; have HB := Aside0.mk hb; clear hb; obtain ⟨A2, k2, e2⟩ := Kd.R_slice h2; subst e2; have q2 := cellS42_2 h0; have f2 := blk_frozen h0 2) | ((with_reducible refine gate_builtin (b := .append) (xs := #[.tmp 26, .tmp 28]) rfl ?_); (try (refine gate_guard (by rfl) ?_; dsimp only)); at_builtin; refine Kd.R_append Kd.string (w0 := w0) w0.heap.size rfl (.tmp 26) (.tmp 28) 24 9 (.string ⟨#[]⟩) 16 rfl Try.underlying24 info9 rfl (by decide) (by omega) (.slice A2 O.length k2) O (sg) [.string (sg)] (fun _ => True) (fun _ => False) rfl rfl ?aP (fun _ hk => hk.elim) ?aF ?aO ?aB ?aS ?aL ?_; (case aP => exact rfl); (case aB => exact HB.out); (case aF => intro k hk; trivial); (case aO => exact h2); (case aS => exact below_size HB.out); (case aL => omega); intro v1 w1 ho hb hg hat; obtain ⟨Az, kz, ez⟩ := Kd.R_slice ho; subst ez; simp only [List.length_append, List.length_cons, List.length_nil, Nat.zero_add] at ho hat; have b1 := blk_grown h0 hg (IsS42.ne h0 h2); have f1 := blk_frozen b1 2; have d1 : w1.cell? ⟨g, 2, none⟩ = some (.slice A2 O.length k2) := (blk_cell b1 2).trans rfl))
              go_roundg k1
              case rel => exact ⟨l3, O ++ [sg], d, H, ⟨p, hp1, hp2, IsS42.put h1 h0 h2 ho hg⟩, ⟨below_set hb h1⟩⟩
              case measure => omega
            · rw [if_neg c2] at h
              exact absurd h (by simp)
          · rw [if_neg c] at h
            simp only [Option.some.injEq, Prod.mk.injEq] at h
            obtain ⟨rfl, rfl, rfl, rfl⟩ := h
            have cb : (e3 != 0) = true := bne_iff_ne.mpr c
            clear c
            go_wp2_with (first | (go_at_call 34; refine (takes_Q g s hs sg hsg l' O' d' true l2 HT.out w0 _ HI.out HB.out).mono ?_; rintro e w2 ⟨rfl, hi, hb⟩; clear HI HB; have HI := Aside0.mk hi; have HB := Aside0.mk hb; clear hi hb) | (go_at_fn fn; refine (HF.out g l2 O' d' e3 l3 O d w0 _ HI.out HB.out H3.out).mono ?_; rintro e w2 ⟨rfl, hi, hb⟩; clear HI HB; have HI := Aside0.mk hi; have HB := Aside0.mk hb; clear hi hb))
            go_ret
            exact ⟨rfl, HI.out, HB.out⟩
  · rw [if_neg c] at h
    simp only [Option.some.injEq, Prod.mk.injEq] at h
    obtain ⟨rfl, rfl, rfl, rfl⟩ := h
    have cb : (e1 != 0) = true := bne_iff_ne.mpr c
    clear c
    go_enter Try.func28, Try.ntmps28
    go_wp2_with (first | (go_at_fn fn; refine (HF.out g l O d e1 l1 O1 d1 w0 _ HI.out HB.out H1.out).mono ?_; rintro e w2 ⟨rfl, hi, hb⟩; clear HI HB; have HI := Aside0.mk hi; have HB := Aside0.mk hb; clear hi hb))
    go_ret
    exact ⟨rfl, HI.out, HB.out⟩
end Go.Proofs.Ytcpemjolabofnaa.PAll
