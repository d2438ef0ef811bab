/- Signs of a text, as chapter 10 tells them: what both texts compute, by cases on at most four bytes. -/
import Derived.Test.YtckdbdbbnlodiaaDoorPAllx
import Derived.Test.YtckdbdbbnlodiaaDoorPw
import Derived.Lib.DecodeN
namespace Go.Proofs.YtckdbdbbnlodiaaDoor.Fr
open Go Go.RowKit Go.Proofs.YtckdbdbbnlodiaaDoor.PAll Go.Proofs.YtckdbdbbnlodiaaDoorW.PrintWords Go.Proofs.YtckdbdbbnlodiaaDoorW.PrintLast Go.Proofs.YtckdbdbbnlodiaaDoorPw
def Sgn (r : Int) : Prop := r > 0 ∧ r ≤ 1114111 ∧ (r < 55296 ∨ r > 57343)
instance (r : Int) : Decidable (Sgn r) := by unfold Sgn; infer_instance
/-- A sign's bytes. -/
def utf (r : Int) : List Int :=
  if r < 128 then [r] else if r < 2048 then [192 + r / 64, 128 + r % 64] else if r < 65536 then [224 + r / 4096, 128 + r / 64 % 64, 128 + r % 64]
  else [240 + r / 262144, 128 + r / 4096 % 64, 128 + r / 64 % 64, 128 + r % 64]
/-- The sign that a text of n bytes begins with (what stands beyond its end is not looked at), and its bytes; 65533 and 1: none. -/
def dec (n b0 b1 b2 b3 : Int) : Int × Int :=
  if b0 < 128 then (b0, 1)
  else if b0 / 32 = 6 ∧ (1 < n ∧ b1 / 64 = 2) then (if b0 % 32 * 64 + b1 % 64 ≥ 128 then (b0 % 32 * 64 + b1 % 64, 2) else (65533, 1))
  else if b0 / 16 = 14 ∧ (1 < n ∧ b1 / 64 = 2) ∧ (2 < n ∧ b2 / 64 = 2) then
    (if b0 % 16 * 4096 + b1 % 64 * 64 + b2 % 64 ≥ 2048 ∧ (b0 % 16 * 4096 + b1 % 64 * 64 + b2 % 64 < 55296 ∨ (57344 ≤ b0 % 16 * 4096 + b1 % 64 * 64 + b2 % 64 ∧ b0 % 16 * 4096 + b1 % 64 * 64 + b2 % 64 ≤ 1114111))
     then (b0 % 16 * 4096 + b1 % 64 * 64 + b2 % 64, 3) else (65533, 1))
  else if b0 / 8 = 30 ∧ (1 < n ∧ b1 / 64 = 2) ∧ (2 < n ∧ b2 / 64 = 2) ∧ (3 < n ∧ b3 / 64 = 2) then
    (if b0 % 8 * 262144 + b1 % 64 * 4096 + b2 % 64 * 64 + b3 % 64 ≥ 65536 ∧ (b0 % 8 * 262144 + b1 % 64 * 4096 + b2 % 64 * 64 + b3 % 64 < 55296 ∨ (57344 ≤ b0 % 8 * 262144 + b1 % 64 * 4096 + b2 % 64 * 64 + b3 % 64 ∧ b0 % 8 * 262144 + b1 % 64 * 4096 + b2 % 64 * 64 + b3 % 64 ≤ 1114111))
     then (b0 % 8 * 262144 + b1 % 64 * 4096 + b2 % 64 * 64 + b3 % 64, 4) else (65533, 1))
  else (65533, 1)
set_option maxRecDepth 100000 in
set_option maxHeartbeats 2000000 in
theorem dec_nat (n b0 b1 b2 b3 : Nat) : (((Lib.decodeN n b0 b1 b2 b3).1 : Int), ((Lib.decodeN n b0 b1 b2 b3).2 : Int)) = dec n b0 b1 b2 b3 := by
  unfold Lib.decodeN dec
  repeat' split
  all_goals first | rfl | (exfalso; omega) | (apply Prod.ext <;> simp <;> omega)
/-- Four bytes of a text from a place on; 0 beyond its end. -/
def D (l : List Int) : Int × Int := dec l.length (l.getD 0 0) (l.getD 1 0) (l.getD 2 0) (l.getD 3 0)
theorem get_bt (s : ByteArray) (i : Nat) : ((s.get! i).toNat : Int) = (bytesOf s).getD i 0 := by
  rw [bytesOf_getD]
  unfold bt
  rw [Int.toNat_natCast]
  by_cases h : i < s.size
  · rw [dif_pos h, Utf8W.get!_of_lt s i h]
  · rw [dif_neg h]
    have : s.get! i = default := by
      cases s with | mk d => ?_
      show d[i]! = default
      rw [getElem!_neg]
      exact h
    rw [this]
    rfl
theorem decode_eq (s : ByteArray) (h : s.size ≠ 0) : utf8_DecodeRuneInString.f s = some (D (bytesOf s)) := by
  unfold utf8_DecodeRuneInString.f Lib.decodeGo
  rw [if_neg h, Lib.decode_at, dec_nat, Nat.sub_zero]
  unfold D
  rw [get_bt, get_bt, get_bt, get_bt, bytesOf_length]
/-- The sign at the beginning of what is left of a text; first: does the text begin there? -/
def signAt (l : List Int) (first : Bool) : Int × Int :=
  if l.length = 0 then (-1, 0) else if ((D l).1 = 65533 ∧ (D l).2 ≤ 1) ∨ (D l).1 = 0 ∨ ((D l).1 = 65279 ∧ first = false) then (-1, if (D l).2 ≤ 1 then 1 else (D l).2) else D l
/-- A sign that stands at the beginning of a text is read. -/
theorem D_utf (r : Int) (h : Sgn r) (t : List Int) : D (utf r ++ t) = (r, ((utf r).length : Int)) := by
  obtain ⟨h1, h2, h3⟩ := h
  unfold D utf dec
  repeat' split
  all_goals simp at *
  all_goals first | omega | (constructor <;> omega) | (exfalso; omega)
theorem byt_utf {r : Int} (h : Sgn r) : Byt (utf r) := by
  obtain ⟨h1, h2, h3⟩ := h
  unfold utf
  intro x hx
  split at hx
  · simp at hx; omega
  · split at hx
    · simp at hx; omega
    · split at hx
      · simp at hx; omega
      · simp at hx; omega
theorem utf_len (r : Int) : 1 ≤ (utf r).length ∧ (utf r).length ≤ 4 := by
  unfold utf
  repeat' split
  all_goals simp
/-- What D reads are a sign's bytes, or there is none. -/
theorem D_cases {l : List Int} (hb : Byt l) (h0 : l.length ≠ 0) : (((D l).1 = 65533 ∨ (D l).1 = 0) ∧ (D l).2 = 1 ∧ ∀ r, Sgn r → ∀ t, l ≠ utf r ++ t) ∨ ∃ t, Sgn (D l).1 ∧ l = utf (D l).1 ++ t ∧ (D l).2 = (utf (D l).1).length := by
  by_cases h : ∃ r, Sgn r ∧ ∃ t, l = utf r ++ t
  · obtain ⟨r, hr, t, rfl⟩ := h
    rw [D_utf r hr t]
    exact .inr ⟨t, hr, rfl, rfl⟩
  · left
    have h : ∀ r, Sgn r → ∀ t, l ≠ utf r ++ t := fun r hr t e => h ⟨r, hr, t, e⟩
    suffices hd : ((D l).1 = 65533 ∨ (D l).1 = 0) ∧ (D l).2 = 1 from ⟨hd.1, hd.2, h⟩
    match l, h0 with
    | b0 :: l1, _ =>
      have r0 := hb b0 (by simp)
      unfold D dec
      by_cases c1 : b0 < 128
      · simp only [List.getD_cons_zero, if_pos c1]
        by_cases z : b0 = 0
        · exact ⟨.inr z, trivial⟩
        · exact absurd (show b0 :: l1 = utf b0 ++ l1 by rw [utf, if_pos c1]; rfl) (h b0 ⟨by omega, by omega, by omega⟩ l1)
      simp only [List.getD_cons_zero, if_neg c1]
      by_cases c2 : b0 / 32 = 6 ∧ (1 < ((b0 :: l1).length : Int) ∧ (b0 :: l1).getD 1 0 / 64 = 2)
      · rw [if_pos c2]
        match l1, c2 with
        | b1 :: l2, c2 =>
          have r1 := hb b1 (by simp)
          simp only [List.getD_cons_succ, List.getD_cons_zero] at c2 ⊢
          by_cases c3 : b0 % 32 * 64 + b1 % 64 ≥ 128
          · exact absurd (show b0 :: b1 :: l2 = utf (b0 % 32 * 64 + b1 % 64) ++ l2 by
              rw [utf, if_neg (by omega), if_pos (by omega)]
              simp
              omega) (h _ ⟨by omega, by omega, by omega⟩ l2)
          · rw [if_neg c3]
            exact ⟨.inl rfl, rfl⟩
        | [], c2 => simp at c2
      rw [if_neg c2]
      by_cases c3 : b0 / 16 = 14 ∧ (1 < ((b0 :: l1).length : Int) ∧ (b0 :: l1).getD 1 0 / 64 = 2) ∧ (2 < ((b0 :: l1).length : Int) ∧ (b0 :: l1).getD 2 0 / 64 = 2)
      · rw [if_pos c3]
        match l1, c3 with
        | b1 :: b2 :: l3, c3 =>
          have r1 := hb b1 (by simp)
          have r2 := hb b2 (by simp)
          simp only [List.getD_cons_succ, List.getD_cons_zero] at c3 ⊢
          by_cases c4 : b0 % 16 * 4096 + b1 % 64 * 64 + b2 % 64 ≥ 2048 ∧ (b0 % 16 * 4096 + b1 % 64 * 64 + b2 % 64 < 55296 ∨ (57344 ≤ b0 % 16 * 4096 + b1 % 64 * 64 + b2 % 64 ∧ b0 % 16 * 4096 + b1 % 64 * 64 + b2 % 64 ≤ 1114111))
          · exact absurd (show b0 :: b1 :: b2 :: l3 = utf (b0 % 16 * 4096 + b1 % 64 * 64 + b2 % 64) ++ l3 by
              rw [utf, if_neg (by omega), if_neg (by omega), if_pos (by omega)]
              simp
              omega) (h _ ⟨by omega, by omega, by omega⟩ l3)
          · rw [if_neg c4]
            exact ⟨.inl rfl, rfl⟩
        | [_], c3 => simp at c3
        | [], c3 => simp at c3
      rw [if_neg c3]
      by_cases c4 : b0 / 8 = 30 ∧ (1 < ((b0 :: l1).length : Int) ∧ (b0 :: l1).getD 1 0 / 64 = 2) ∧ (2 < ((b0 :: l1).length : Int) ∧ (b0 :: l1).getD 2 0 / 64 = 2) ∧ (3 < ((b0 :: l1).length : Int) ∧ (b0 :: l1).getD 3 0 / 64 = 2)
      · rw [if_pos c4]
        match l1, c4 with
        | b1 :: b2 :: b3 :: l4, c4 =>
          have r1 := hb b1 (by simp)
          have r2 := hb b2 (by simp)
          have r3 := hb b3 (by simp)
          simp only [List.getD_cons_succ, List.getD_cons_zero] at c4 ⊢
          by_cases c5 : b0 % 8 * 262144 + b1 % 64 * 4096 + b2 % 64 * 64 + b3 % 64 ≥ 65536 ∧ (b0 % 8 * 262144 + b1 % 64 * 4096 + b2 % 64 * 64 + b3 % 64 < 55296 ∨ (57344 ≤ b0 % 8 * 262144 + b1 % 64 * 4096 + b2 % 64 * 64 + b3 % 64 ∧ b0 % 8 * 262144 + b1 % 64 * 4096 + b2 % 64 * 64 + b3 % 64 ≤ 1114111))
          · exact absurd (show b0 :: b1 :: b2 :: b3 :: l4 = utf (b0 % 8 * 262144 + b1 % 64 * 4096 + b2 % 64 * 64 + b3 % 64) ++ l4 by
              rw [utf, if_neg (by omega), if_neg (by omega), if_neg (by omega)]
              simp
              omega) (h _ ⟨by omega, by omega, by omega⟩ l4)
          · rw [if_neg c5]
            exact ⟨.inl rfl, rfl⟩
        | [_, _], c4 => simp at c4
        | [_], c4 => simp at c4
        | [], c4 => simp at c4
      rw [if_neg c4]
      exact ⟨.inl rfl, rfl⟩
end Go.Proofs.YtckdbdbbnlodiaaDoor.Fr
