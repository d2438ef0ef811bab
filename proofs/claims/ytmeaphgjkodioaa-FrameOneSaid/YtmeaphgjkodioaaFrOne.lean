/- Chapter 4: one turned byte is found. -/
import Derived.Test.YtmeaphgjkodioaaFrB
import Derived.Test.YtmeaphgjkodioaaPAllx5
namespace Go.Proofs.Ytmeaphgjkodioaa.Fr
open Go Go.RowKit Go.Proofs.Ytmeaphgjkodioaa.PAll Go.Proofs.YtmeaphgjkodioaaW.PrintWords Go.Proofs.YtmeaphgjkodioaaW.PrintLast Go.Proofs.YtmeaphgjkodioaaPw
theorem xor_ne (x c : Int) (hx : 0 ≤ x) (hx2 : x < 256) (hc : 0 ≤ c) (hc2 : c < 256) (h : c ≠ 0) : 0 ≤ Go.bits .xor .u8 x c ∧ Go.bits .xor .u8 x c < 256 ∧ Go.bits .xor .u8 x c ≠ x := by
  rw [u8_xor x c hx hx2 hc hc2]
  have hlt : x.toNat ^^^ c.toNat < 2 ^ 8 := Nat.xor_lt_two_pow (by omega) (by omega)
  refine ⟨by omega, by omega, fun e => h ?_⟩
  have e2 : x.toNat ^^^ c.toNat = x.toNat ^^^ 0 := by rw [Nat.xor_zero]; omega
  have := xlc e2
  omega
theorem FrameOne : seichelaw04_FrameOne.Pure := by
  intro a0 a1 a2 _ w1 w2
  refine Ev.rounds (g := fun k => seichelaw04_FrameOne.f k a0 a1 a2) (ev_call alive_ev (ev_pos rfl ?_))
  by_cases c1 : 4096 < (a0.size : Int)
  · exact ev_pos c1 (Ev.now true)
  refine ev_neg c1 ?_
  by_cases c2 : a1 < 0
  · exact ev_pos c2 (Ev.now true)
  refine ev_neg c2 ?_
  by_cases c3 : (a0.size : Int) ≤ a1
  · exact ev_pos c3 (Ev.now true)
  refine ev_neg c3 ?_
  by_cases c4 : a2 = 0
  · exact ev_pos c4 (Ev.now true)
  refine ev_neg c4 ?_
  obtain ⟨j, rfl⟩ := Int.eq_ofNat_of_zero_le (Int.not_lt.1 c2)
  have hj : j < a0.size := by omega
  have hl : j < (bytesOf a0).length := by rw [bytesOf_length]; exact hj
  have hbt := byt_getD (byt_bytesOf a0) j
  rw [bytesOf_getD] at hbt
  have hc : 0 ≤ a2 ∧ a2 < 256 := by
    have : ∀ z ∈ [a2], (Lit.int .u8 z).wf = true := by simpa using w2
    exact byt_wf this a2 (by simp)
  obtain ⟨x1, x2, x3⟩ := xor_ne (bt a0 (j : Int)) a2 hbt.1 hbt.2 hc.1 hc.2 c4
  have hbyt : Byt ((bytesOf a0).set j (Go.bits .xor .u8 (bt a0 (j : Int)) a2)) := by
    intro z hz
    rcases List.mem_or_eq_of_mem_set hz with h | h
    · exact byt_bytesOf a0 z h
    · rw [h]; exact ⟨x1, x2⟩
  have hturn : bytesOf (seichelaw04_FrameOne.turned a0 (j : Int) a2) = (bytesOf a0).set j (Go.bits .xor .u8 (bt a0 (j : Int)) a2) := bytes_str hbyt
  have hsz : (seichelaw04_FrameOne.turned a0 (j : Int) a2).size = a0.size := by rw [← bytesOf_length, hturn, List.length_set, bytesOf_length]
  refine ev_call (check_ev _ (by omega)) (ev_call (check_ev a0 (by omega)) (ev_ret ?_))
  rw [bne_iff_ne, hturn]
  have e1 : bytesOf a0 = (bytesOf a0).take j ++ bt a0 (j : Int) :: (bytesOf a0).drop (j + 1) := by
    conv => lhs; rw [← List.take_append_drop j (bytesOf a0), drop_bytes a0 j hj]
  have e2 : (bytesOf a0).set j (Go.bits .xor .u8 (bt a0 (j : Int)) a2) = (bytesOf a0).take j ++ Go.bits .xor .u8 (bt a0 (j : Int)) a2 :: (bytesOf a0).drop (j + 1) := List.set_eq_take_append_cons_drop .. |>.trans (if_pos hl)
  rw [e2]
  conv => rhs; rw [e1]
  exact crc_one _ _ _ _ x1 x2 hbt.1 hbt.2 x3
end Go.Proofs.Ytmeaphgjkodioaa.Fr
