/- The check sum of chapter 4: what both texts compute, and that one turned byte is found. -/
import Derived.Test.YtmeaphgjkodioaaPAllx1
import Derived.Test.YtmeaphgjkodioaaPAllx2
import Derived.Test.YtmeaphgjkodioaaPw
import Derived.Laws.BitsAllLaws
namespace Go.Proofs.Ytmeaphgjkodioaa.Fr
open Go Go.RowKit Go.Proofs.Ytmeaphgjkodioaa.PAll Go.Proofs.YtmeaphgjkodioaaW.PrintWords Go.Proofs.YtmeaphgjkodioaaW.PrintLast Go.Proofs.YtmeaphgjkodioaaPw
/-- One bit. -/
def bit (x : Int) : Int := Go.bits .xor .u32 (x / 2) (Go.bits .and .u32 2197175160 ((-(Go.bits .and .u32 x 1)) % 4294967296))
def bits8 (x : Int) : Int := bit (bit (bit (bit (bit (bit (bit (bit x)))))))
def byt (x c : Int) : Int := bits8 (Go.bits .xor .u32 x (c % 4294967296))
def crcL (x : Int) : List Int → Int
  | [] => x
  | c :: l => crcL (byt x c) l
def crc (l : List Int) : Int := Go.bits .xor .u32 4294967295 (crcL 4294967295 l)
theorem xrc {a b c : Nat} (h : a ^^^ c = b ^^^ c) : a = b := by
  have e := congrArg (· ^^^ c) h
  simpa [Nat.xor_assoc] using e
theorem xlc {a b c : Nat} (h : c ^^^ a = c ^^^ b) : a = b := by
  rw [Nat.xor_comm c a, Nat.xor_comm c b] at h
  exact xrc h
theorem xor_range (x y : Int) (hx : 0 ≤ x) (hx2 : x < 4294967296) (hy : 0 ≤ y) (hy2 : y < 4294967296) : 0 ≤ Go.bits .xor .u32 x y ∧ Go.bits .xor .u32 x y < 4294967296 := by
  rw [u32_xor x y hx hx2 hy hy2]
  have : x.toNat ^^^ y.toNat < 2 ^ 32 := Nat.xor_lt_two_pow (by omega) (by omega)
  omega
theorem and_one (x : Int) (hx : 0 ≤ x) (hx2 : x < 4294967296) : Go.bits .and .u32 x 1 = x % 2 := by
  rw [u32_and x 1 hx hx2 (by omega) (by omega)]
  have e : x.toNat &&& (1 : Int).toNat = x.toNat % 2 := Nat.and_one_is_mod _
  rw [e]
  omega
theorem bit_even (x : Int) (hx : 0 ≤ x) (hx2 : x < 4294967296) (h : x % 2 = 0) : bit x = x / 2 := by
  unfold bit
  rw [and_one x hx hx2, h]
  have e : Go.bits .and .u32 2197175160 ((-(0 : Int)) % 4294967296) = 0 := by decide
  rw [e, u32_xor (x / 2) 0 (by omega) (by omega) (by omega) (by omega)]
  have e : (x / 2).toNat ^^^ (0 : Int).toNat = (x / 2).toNat := Nat.xor_zero _
  rw [e]
  omega
theorem bit_odd (x : Int) (hx : 0 ≤ x) (hx2 : x < 4294967296) (h : x % 2 = 1) : bit x = Go.bits .xor .u32 (x / 2) 2197175160 := by
  unfold bit
  rw [and_one x hx hx2, h]
  have e : Go.bits .and .u32 2197175160 ((-(1 : Int)) % 4294967296) = 2197175160 := by decide
  rw [e]
theorem bit_range (x : Int) (hx : 0 ≤ x) (hx2 : x < 4294967296) : 0 ≤ bit x ∧ bit x < 4294967296 := by
  rcases Int.emod_two_eq x with h | h
  · rw [bit_even x hx hx2 h]; omega
  · rw [bit_odd x hx hx2 h]; exact xor_range _ _ (by omega) (by omega) (by omega) (by omega)
theorem odd_high (n : Nat) (h : n < 2147483648) : 2147483648 ≤ n ^^^ 2197175160 := by
  have t : (n ^^^ 2197175160).testBit 31 = true := by
    rw [Nat.testBit_xor, Nat.testBit_lt_two_pow (by omega : n < 2 ^ 31)]
    decide
  exact Nat.ge_two_pow_of_testBit t
theorem bit_inj (x y : Int) (hx : 0 ≤ x) (hx2 : x < 4294967296) (hy : 0 ≤ y) (hy2 : y < 4294967296) (h : bit x = bit y) : x = y := by
  have key : ∀ z : Int, 0 ≤ z → z < 4294967296 → z % 2 = 1 → bit z = (((z / 2).toNat ^^^ 2197175160 : Nat) : Int) := fun z h0 h1 h2 => by
    rw [bit_odd z h0 h1 h2, u32_xor (z / 2) 2197175160 (by omega) (by omega) (by omega) (by omega)]
    rfl
  rcases Int.emod_two_eq x with ex | ex <;> rcases Int.emod_two_eq y with ey | ey
  · rw [bit_even x hx hx2 ex, bit_even y hy hy2 ey] at h; omega
  · rw [bit_even x hx hx2 ex, key y hy hy2 ey] at h
    have := odd_high (y / 2).toNat (by omega)
    omega
  · rw [bit_even y hy hy2 ey, key x hx hx2 ex] at h
    have := odd_high (x / 2).toNat (by omega)
    omega
  · rw [key x hx hx2 ex, key y hy hy2 ey] at h
    have h' : (x / 2).toNat ^^^ 2197175160 = (y / 2).toNat ^^^ 2197175160 := Int.ofNat.inj h
    have := xrc h'
    omega
theorem bits8_range (x : Int) (hx : 0 ≤ x) (hx2 : x < 4294967296) : 0 ≤ bits8 x ∧ bits8 x < 4294967296 := by
  unfold bits8
  have b1 := bit_range x hx hx2
  have b2 := bit_range _ b1.1 b1.2
  have b3 := bit_range _ b2.1 b2.2
  have b4 := bit_range _ b3.1 b3.2
  have b5 := bit_range _ b4.1 b4.2
  have b6 := bit_range _ b5.1 b5.2
  have b7 := bit_range _ b6.1 b6.2
  exact bit_range _ b7.1 b7.2
theorem bits8_inj (x y : Int) (hx : 0 ≤ x) (hx2 : x < 4294967296) (hy : 0 ≤ y) (hy2 : y < 4294967296) (h : bits8 x = bits8 y) : x = y := by
  unfold bits8 at h
  have b1 := bit_range x hx hx2
  have b2 := bit_range _ b1.1 b1.2
  have b3 := bit_range _ b2.1 b2.2
  have b4 := bit_range _ b3.1 b3.2
  have b5 := bit_range _ b4.1 b4.2
  have b6 := bit_range _ b5.1 b5.2
  have b7 := bit_range _ b6.1 b6.2
  have c1 := bit_range y hy hy2
  have c2 := bit_range _ c1.1 c1.2
  have c3 := bit_range _ c2.1 c2.2
  have c4 := bit_range _ c3.1 c3.2
  have c5 := bit_range _ c4.1 c4.2
  have c6 := bit_range _ c5.1 c5.2
  have c7 := bit_range _ c6.1 c6.2
  exact bit_inj _ _ hx hx2 hy hy2 (bit_inj _ _ b1.1 b1.2 c1.1 c1.2 (bit_inj _ _ b2.1 b2.2 c2.1 c2.2 (bit_inj _ _ b3.1 b3.2 c3.1 c3.2 (bit_inj _ _ b4.1 b4.2 c4.1 c4.2 (bit_inj _ _ b5.1 b5.2 c5.1 c5.2 (bit_inj _ _ b6.1 b6.2 c6.1 c6.2 (bit_inj _ _ b7.1 b7.2 c7.1 c7.2 h)))))))
theorem byt_range (x c : Int) (hx : 0 ≤ x) (hx2 : x < 4294967296) : 0 ≤ byt x c ∧ byt x c < 4294967296 := by
  have := xor_range x (c % 4294967296) hx hx2 (by omega) (by omega)
  exact bits8_range _ this.1 this.2
theorem xor_inj_l (x y c : Int) (hx : 0 ≤ x) (hx2 : x < 4294967296) (hy : 0 ≤ y) (hy2 : y < 4294967296) (hc : 0 ≤ c) (hc2 : c < 4294967296) (h : Go.bits .xor .u32 x c = Go.bits .xor .u32 y c) : x = y := by
  rw [u32_xor x c hx hx2 hc hc2, u32_xor y c hy hy2 hc hc2] at h
  have := xrc (Int.ofNat.inj h)
  omega
theorem xor_inj_r (x c d : Int) (hx : 0 ≤ x) (hx2 : x < 4294967296) (hy : 0 ≤ d) (hy2 : d < 4294967296) (hc : 0 ≤ c) (hc2 : c < 4294967296) (h : Go.bits .xor .u32 x c = Go.bits .xor .u32 x d) : c = d := by
  rw [u32_xor x c hx hx2 hc hc2, u32_xor x d hx hx2 hy hy2] at h
  have := xlc (Int.ofNat.inj h)
  omega
theorem byt_inj_l (x y c : Int) (hx : 0 ≤ x) (hx2 : x < 4294967296) (hy : 0 ≤ y) (hy2 : y < 4294967296) (h : byt x c = byt y c) : x = y := by
  have a := xor_range x (c % 4294967296) hx hx2 (by omega) (by omega)
  have b := xor_range y (c % 4294967296) hy hy2 (by omega) (by omega)
  exact xor_inj_l x y (c % 4294967296) hx hx2 hy hy2 (by omega) (by omega) (bits8_inj _ _ a.1 a.2 b.1 b.2 h)
theorem byt_inj_r (x c d : Int) (hx : 0 ≤ x) (hx2 : x < 4294967296) (hc : 0 ≤ c) (hc2 : c < 256) (hd : 0 ≤ d) (hd2 : d < 256) (h : byt x c = byt x d) : c = d := by
  have a := xor_range x (c % 4294967296) hx hx2 (by omega) (by omega)
  have b := xor_range x (d % 4294967296) hx hx2 (by omega) (by omega)
  have := xor_inj_r x (c % 4294967296) (d % 4294967296) hx hx2 (by omega) (by omega) (by omega) (by omega) (bits8_inj _ _ a.1 a.2 b.1 b.2 h)
  omega
theorem crcL_range : ∀ (l : List Int) (x : Int), 0 ≤ x → x < 4294967296 → 0 ≤ crcL x l ∧ crcL x l < 4294967296
  | [], _, h0, h1 => ⟨h0, h1⟩
  | c :: l, x, h0, h1 => crcL_range l _ (byt_range x c h0 h1).1 (byt_range x c h0 h1).2
theorem crcL_inj : ∀ (l : List Int) (x y : Int), 0 ≤ x → x < 4294967296 → 0 ≤ y → y < 4294967296 → crcL x l = crcL y l → x = y
  | [], _, _, _, _, _, _, h => h
  | c :: l, x, y, h0, h1, h2, h3, h => byt_inj_l x y c h0 h1 h2 h3 (crcL_inj l _ _ (byt_range x c h0 h1).1 (byt_range x c h0 h1).2 (byt_range y c h2 h3).1 (byt_range y c h2 h3).2 h)
theorem crcL_append : ∀ (l m : List Int) (x : Int), crcL x (l ++ m) = crcL (crcL x l) m
  | [], _, _ => rfl
  | _ :: l, m, _ => crcL_append l m _
theorem crc_range (l : List Int) : 0 ≤ crc l ∧ crc l < 4294967296 := by
  have := crcL_range l 4294967295 (by omega) (by omega)
  exact xor_range _ _ (by omega) (by omega) this.1 this.2
/-- ONE TURNED BYTE IS FOUND. -/
theorem crc_one (a b : List Int) (c d : Int) (hc : 0 ≤ c) (hc2 : c < 256) (hd : 0 ≤ d) (hd2 : d < 256) (h : c ≠ d) : crc (a ++ c :: b) ≠ crc (a ++ d :: b) := by
  intro e
  have r := crcL_range a 4294967295 (by omega) (by omega)
  have r1 := crcL_range (a ++ c :: b) 4294967295 (by omega) (by omega)
  have r2 := crcL_range (a ++ d :: b) 4294967295 (by omega) (by omega)
  have e2 := xor_inj_r _ _ _ (by omega) (by omega) r2.1 r2.2 r1.1 r1.2 e
  rw [crcL_append, crcL_append] at e2
  have b1 := byt_range (crcL 4294967295 a) c r.1 r.2
  have b2 := byt_range (crcL 4294967295 a) d r.1 r.2
  exact h (byt_inj_r _ c d r.1 r.2 hc hc2 hd hd2 (crcL_inj b _ _ b1.1 b1.2 b2.1 b2.2 e2))

/-! The two texts. -/
theorem drop_cons (s : ByteArray) (i : Nat) (h : i < s.size) : (bytesOf s).drop i = bt s i :: (bytesOf s).drop (i + 1) := by
  have hl : i < (bytesOf s).length := by rw [bytesOf_length]; exact h
  rw [List.drop_eq_getElem_cons hl]
  congr 1
  rw [← bytesOf_getD, List.getD_eq_getElem?_getD, List.getElem?_eq_getElem hl]
  rfl
theorem check_l1 (s : ByteArray) (n : Int) (i : Int) (r : Int) : ∀ (d : Nat) (j : Int) (x : Int), 0 ≤ j → j + d = 8 →
    Ev (fun k => frame_Check.l0 k s (Nat.repeat bit d x) n (wrap64 (i + 1))) r → Ev (fun k => frame_Check.l1 k s x n i j) r
  | 0, j, x, h0, h1, h => Ev.step (fun _ => frame_Check.l1.eq_2 ..) (ev_neg (by omega) h)
  | d + 1, j, x, h0, h1, h => Ev.step (fun _ => frame_Check.l1.eq_2 ..) (ev_pos (by omega) (by
      rw [w64 (by omega) (by omega)]
      refine check_l1 s n i r d (j + 1) _ (by omega) (by omega) ?_
      have e : ∀ (d : Nat) (x : Int), Nat.repeat bit d (bit x) = Nat.repeat bit (d + 1) x := by
        intro d
        induction d with
        | zero => intro x; rfl
        | succ d ih => intro x; show bit (Nat.repeat bit d (bit x)) = bit (Nat.repeat bit (d + 1) x); rw [ih]
      have e2 := e d x
      unfold bit at e2 ⊢
      rw [e2]
      exact h))
theorem check_l0 (s : ByteArray) (hs : s.size < 9223372036854775807) : ∀ (d i : Nat) (x : Int), i + d = s.size →
    Ev (fun k => frame_Check.l0 k s x (s.size : Int) (i : Int)) (Go.bits .xor .u32 4294967295 (crcL x ((bytesOf s).drop i)))
  | 0, i, x, hd => Ev.step (fun _ => frame_Check.l0.eq_2 ..) (ev_neg (by omega) (ev_ret (by rw [List.drop_of_length_le (by rw [bytesOf_length]; omega)]; rfl)))
  | d + 1, i, x, hd => Ev.step (fun _ => frame_Check.l0.eq_2 ..) (ev_pos (by omega) (ev_pos (by omega) (ev_pos (by omega) (by
      refine check_l1 s _ _ _ 8 0 _ (by omega) (by omega) ?_
      rw [w64 (by omega) (by omega)]
      have ih := check_l0 s hs d (i + 1) (byt x (bt s i)) (by omega)
      rw [drop_cons s i (by omega)]
      exact ih))))
theorem check_ev (s : ByteArray) (hs : s.size < 9223372036854775807) : Ev (fun k => frame_Check.f k s) (crc (bytesOf s)) := check_l0 s hs s.size 0 4294967295 (by omega)
end Go.Proofs.Ytmeaphgjkodioaa.Fr
