/- Tag: what ContainsFunc tells of a text's bytes. -/
import Derived.Test.YtcpemjolabofnaaExP
import Derived.Shelf.Abstract
namespace Go.Proofs.Ytcpemjolabofnaa.PAll
open Go Go.RowKit Go.Proofs.YtcpemjolabofnaaW.PrintWords Go.Proofs.YtcpemjolabofnaaW.PrintLast Go.Proofs.YtcpemjolabofnaaW.PrintMore Go.Proofs.YtcpemjolabofnaaMy Go.Proofs.Ytcpemjolabofnaa Go.Proofs.YtcpemjolabofnaaPw
set_option linter.unusedVariables false
set_option linter.unusedSimpArgs false
theorem notTag_any (x : Int) (w : World) : Calls Try.prog 24 #[.int .u8 x] w fun e w' => e = .returned (.bool (!isT x)) ∧ Drawn0 w w' := by
  have HF := Aside0.mk (tag_f x)
  go_enter Try.func24, Try.ntmps24
  go_wp2_with (first | (go_at_call 25; refine (expr_tag.calls x (isT x) _ HF.out).mono ?_; rintro e w2 ⟨rfl, ⟨nd, rfl⟩⟩))
  go_ret
  exact ⟨rfl, ⟨nd, rfl⟩⟩
/-- The place of the first sign that is none of a tag. -/
def idxF (l : List Int) : Int := if l.all isT = true then -1 else ((l.takeWhile isT).length : Int)
theorem idx_step (l : List Int) (q : Nat) (hq : q < l.length) (h : (l.take q).all isT = true) (ht : isT (rd l (q : Int)) = true) : (l.take (q + 1)).all isT = true := by
  rw [List.take_succ_eq_append_getElem hq, List.all_append, h]
  have e : rd l (q : Int) = l[q] := by
    unfold rd
    rw [Int.toNat_natCast, List.getD_eq_getElem?_getD, List.getElem?_eq_getElem hq]
    rfl
  rw [e] at ht
  simp [ht]
theorem idx_stop (l : List Int) (q : Nat) (hq : q < l.length) (h : (l.take q).all isT = true) (ht : isT (rd l (q : Int)) = false) : idxF l = (q : Int) := by
  have e : rd l (q : Int) = l[q] := by
    unfold rd
    rw [Int.toNat_natCast, List.getD_eq_getElem?_getD, List.getElem?_eq_getElem hq]
    rfl
  rw [e] at ht
  have hl : l = l.take q ++ l[q] :: l.drop (q + 1) := by
    conv => lhs; rw [← List.take_append_drop q l, List.drop_eq_getElem_cons hq]
  have h1 : l.all isT = false := by
    rw [hl, List.all_append, List.all_cons, ht]
    simp
  have h2 : (l.takeWhile isT).length = q := by
    rw [hl, List.takeWhile_append_of_pos (fun a ha => List.all_eq_true.1 h a ha), List.takeWhile_cons, if_neg (by rw [ht]; simp)]
    simp
    omega
  unfold idxF
  rw [h1, if_neg (by simp), h2]
set_option maxHeartbeats 2000000 in
set_option maxRecDepth 100000 in
theorem indexFunc_any (A : Option Addr) (cap : Nat) (l : List Int) (w : World) (hc : ReadsInt w .u8 A l.length l) (hcap : l.length ≤ cap) :
    Calls Try.prog 32 #[.slice A l.length cap, .func (.func 24) #[] #[]] w fun e w' => e = .returned (.int .i64 (idxF l)) ∧ Drawn0 w w' := by
  have HC := Aside0.mk hc
  obtain ⟨n, hn⟩ : ∃ n : Nat, n = l.length := ⟨_, rfl⟩
  have hmax := hc.2.1
  rw [← hn] at hmax ⊢
  have he := enters_ Try.func24 (by kernel_rfl) (by kernel_rfl)
  have HN := Aside0.mk hn
  have HM := Aside0.mk hmax
  clear hc hn hmax
  go_enter Try.func32, Try.ntmps32
  go_wp2
  go_loopg [8] n (fun kq u8 w' => ∃ (q : Nat) (x : Int), u8 = .int .i64 x ∧ Aside0 (x = (q : Int) ∧ q ≤ n ∧ n - q ≤ kq) ∧ Aside0 ((l.take q).all isT = true) ∧ Aside0 (Drawn0 w w'))
  case atStart => exact ⟨0, 0, rfl, ⟨rfl, Nat.zero_le _, Nat.le_refl _⟩, ⟨rfl⟩, ⟨Drawn0.refl _⟩⟩
  case round =>
    obtain ⟨q, x, rfl, HX, HT, HD⟩ := hrel
    by_cases c1 : q < n
    · have c1b : decide (x < (n : Int)) = true := decide_eq_true (by have := HX.out.1; omega)
      have p1 : (0 ≤ x) = True := eq_true (by have := HX.out.1; omega)
      have p2 : (x < (n : Int)) = True := eq_true (by have := HX.out.1; omega)
      have HW : Aside0 (wrap64 (x + 1) = ((q + 1 : Nat) : Int)) := ⟨by have := HX.out.1; have := HM.out; rw [w64 (by omega) (by omega)]; omega⟩
      obtain ⟨ad, rfl, hx⟩ := ReadsInt.at_ (HC.out) x (by have := HX.out.1; omega) (by have := HX.out.1; have := HN.out; omega)
      obtain ⟨m, rfl⟩ := HD.out.out
      have HQ := Aside0.mk c1
      clear c1
      by_cases t : isT (rd l x) = true
      · have HT2 := Aside0.mk (idx_step l q (by have := HN.out; have := HQ.out; omega) HT.out (by have := HX.out.1; rw [← this]; exact t))
        have tb : (!isT (rd l x)) = false := by rw [t]; rfl
        clear t
        go_wp2_with (first | (go_at_call 24; refine (notTag_any (rd l x) _).mono ?_; rintro e w2 ⟨rfl, ⟨nd, rfl⟩⟩))
        go_roundg (gk - 1)
        case measure => have := HX.out; have := HQ.out; omega
        case rel => exact ⟨q + 1, _, rfl, ⟨HW.out, HQ.out, by have := HX.out; omega⟩, HT2, ⟨⟨⟨_, rfl⟩⟩⟩⟩
      · have tf := Bool.eq_false_iff.2 t
        have HS := Aside0.mk (idx_stop l q (by have := HN.out; have := HQ.out; omega) HT.out (by have := HX.out.1; rw [← this]; exact tf))
        have tb : (!isT (rd l x)) = true := by rw [tf]; rfl
        clear t tf
        go_wp2_with (first | (go_at_call 24; refine (notTag_any (rd l x) _).mono ?_; rintro e w2 ⟨rfl, ⟨nd, rfl⟩⟩))
        go_ret
        exact ⟨by rw [HS.out, ← HX.out.1]; rfl, ⟨⟨_, rfl⟩⟩⟩
    · have c1b : decide (x < (n : Int)) = false := decide_eq_false (by have := HX.out.1; omega)
      have HS : Aside0 (idxF l = -1) := ⟨by
        have h := HT.out
        rw [List.take_of_length_le (by have := HN.out; omega)] at h
        unfold idxF
        rw [if_pos h]⟩
      clear c1
      go_wp2
      go_ret
      exact ⟨by rw [HS.out]; rfl, HD.out⟩
theorem containsFunc_any (A : Option Addr) (cap : Nat) (l : List Int) (w : World) (hc : ReadsInt w .u8 A l.length l) (hcap : l.length ≤ cap) :
    Calls Try.prog 23 #[.slice A l.length cap, .func (.func 24) #[] #[]] w fun e w' => e = .returned (.bool (!l.all isT)) ∧ Drawn0 w w' := by
  have HI := Aside0.mk (indexFunc_any A cap l w hc hcap)
  have HZ : Aside0 (decide (0 ≤ idxF l) = !l.all isT) := ⟨by
    unfold idxF
    by_cases h : l.all isT = true
    · rw [if_pos h, h]
      rfl
    · rw [if_neg h, Bool.eq_false_iff.2 h]
      exact decide_eq_true (by omega)⟩
  obtain ⟨x, hx⟩ : ∃ x, x = idxF l := ⟨_, rfl⟩
  rw [← hx] at HI HZ
  obtain ⟨b, hb⟩ : ∃ b, b = !l.all isT := ⟨_, rfl⟩
  rw [← hb] at HZ ⊢
  obtain ⟨n, hn⟩ : ∃ n : Nat, n = l.length := ⟨_, rfl⟩
  rw [← hn] at HI ⊢
  clear hc hcap hx hb hn
  go_enter Try.func23, Try.ntmps23
  go_wp2_with (first | (go_at_call 32; refine HI.out.mono ?_; rintro e w2 ⟨rfl, ⟨nd, rfl⟩⟩))
  go_ret
  exact ⟨by rw [← HZ.out]; rfl, ⟨nd, rfl⟩⟩
theorem bytes_reads (w : World) (s : ByteArray) (hs : s.size ≤ 140737488351232) (e : TypeId) : ReadsInt (Lib.bytesWorld w e s) .u8 (some ⟨w.heap.size, 0, none⟩) (bytesOf s).length (bytesOf s) := by
  rw [bytesOf_length]
  refine ⟨by rw [bytesOf_length], by omega, fun hn => ⟨_, rfl, fun j hj => ?_⟩⟩
  rw [add_plain, Lib.bytesWorld_cell w e s j hj]
  congr 2
  simp [bytesOf, List.getD_eq_getElem?_getD]
  rw [Array.getElem?_eq_getElem (by simpa using hj)]
  rfl
def expr_Tag.f (a0 : ByteArray) : Option Bool := if a0.size ≤ 140737488351232 then some (rTag a0) else none
set_option maxHeartbeats 2000000 in
set_option maxRecDepth 100000 in
theorem expr_Tag.calls (a0 : ByteArray) (r : Bool) (w : World) (h : expr_Tag.f a0 = some r) : Calls Try.prog 14 #[.string a0] w fun e w' => e = .returned (.bool r) ∧ Below w.heap.size w w' := by
  unfold expr_Tag.f at h
  by_cases hs : a0.size ≤ 140737488351232
  · rw [if_pos hs] at h
    obtain rfl := Option.some.inj h
    clear h
    by_cases c : bytesOf a0 = []
    · have e1 : a0.toList = [] := (empty_iff a0).2 c
      have e2 : (a0.toList != ([] : List UInt8)) = false := by rw [e1]; rfl
      have e3 : (!a0.toList.isEmpty) = false := by rw [e1]; rfl
      have HR : Aside0 (rTag a0 = false) := ⟨by unfold rTag tagB; rw [c]; rfl⟩
      clear e1 c
      go_enter Try.func14, Try.ntmps14
      go_wp2
      go_ret
      exact ⟨by rw [HR.out]; rfl, Below.refl _ _⟩
    · have e1 : a0.toList ≠ [] := fun h => c ((empty_iff a0).1 h)
      have e2 : (a0.toList != ([] : List UInt8)) = true := by cases h : a0.toList with | nil => exact absurd h e1 | cons x y => rfl
      have e3 : (!a0.toList.isEmpty) = true := by cases h : a0.toList with | nil => exact absurd h e1 | cons x y => rfl
      have hcv := Lib.run_convert_string_bytes (P := Try.prog) w 9 23 5 a0 Try.underlying9 Try.underlying23 Try.underlying5
      have HC := Aside0.mk (containsFunc_any (some ⟨w.heap.size, 0, none⟩) (grownCap w a0.size 0 5) (bytesOf a0) (Lib.bytesWorld w 5 a0) (bytes_reads w a0 hs _) (by rw [bytesOf_length]; exact grownCap_ge _ _ _ _))
      have HR : Aside0 (rTag a0 = !(!(bytesOf a0).all isT)) := ⟨by unfold rTag tagB; rw [Bool.not_not]; cases h : bytesOf a0 with | nil => exact absurd h c | cons x y => simp⟩
      obtain ⟨b, hb⟩ : ∃ b, b = !(bytesOf a0).all isT := ⟨_, rfl⟩
      rw [← hb, bytesOf_length] at HC
      rw [← hb] at HR
      have HB : Aside0 (Below w.heap.size w (Lib.bytesWorld w 5 a0)) := ⟨⟨rfl, rfl, rfl, by rw [Lib.bytesWorld_size]; omega, fun k_ hk_ => Lib.bytesWorld_at_old w _ a0 k_ hk_⟩⟩
      clear e1 c hb
      go_enter Try.func14, Try.ntmps14
      go_wp2_with (first | (go_at_call 23; refine HC.out.mono ?_; rintro e w2 ⟨rfl, ⟨nd, rfl⟩⟩))
      go_ret
      exact ⟨by rw [HR.out]; rfl, pw_below_drewN HB.out _⟩
  · rw [if_neg hs] at h
    exact absurd h (by simp)
end Go.Proofs.Ytcpemjolabofnaa.PAll
