/- Signs of a text, as chapter 10 tells them (its own texts): what the program computes, by cases on at most four bytes. -/
import Derived.Test.YtfolmcfcmonkhaaDoorPAllx2
import Derived.Test.YtfolmcfcmonkhaaDoorPw
import Derived.Lib.DecodeN
import Derived.Test.YtfolmcfcmonkhaaDoorScB
import Derived.Test.YtfolmcfcmonkhaaDoorScT
import Derived.Test.YtfolmcfcmonkhaaDoorScR
import Derived.Test.YtfolmcfcmonkhaaDoorScN
import Derived.Test.YtfolmcfcmonkhaaDoorScS
import Derived.Test.YtfolmcfcmonkhaaDoorScZ
namespace Go.Proofs.YtfolmcfcmonkhaaDoor.Fr
open Go Go.RowKit Go.Proofs.YtfolmcfcmonkhaaDoor.PAll Go.Proofs.YtfolmcfcmonkhaaDoorW.PrintWords Go.Proofs.YtfolmcfcmonkhaaDoorW.PrintLast Go.Proofs.YtfolmcfcmonkhaaDoorPw
def Sgn (r : Int) : Prop := r > 0 ∧ r ≤ 1114111 ∧ (r < 55296 ∨ r > 57343)
instance (r : Int) : Decidable (Sgn r) := by unfold Sgn; infer_instance
/-- A sign's bytes. -/
def utf (r : Int) : List Int :=
  if r < 128 then [r] else if r < 2048 then [192 + r / 64, 128 + r % 64] else if r < 65536 then [224 + r / 4096, 128 + r / 64 % 64, 128 + r % 64]
  else [240 + r / 262144, 128 + r / 4096 % 64, 128 + r / 64 % 64, 128 + r % 64]
/-- The sign that a text of n bytes begins with (what stands beyond its end is not looked at), and its bytes; 65533 and 1: none. -/
def dec (n b0 b1 b2 b3 : Int) : Int × Int :=
  if b0 < 128 then (b0, 1)
  else if b0 / 32 = 6 ∧ (1 < n ∧ b1 / 64 = 2) then (if b0 % 32 * 64 + b1 % 64 ≥ 128 then (b0 % 32 * 64 + b1 % 64, 2) else (65533, 1))
  else if b0 / 16 = 14 ∧ (1 < n ∧ b1 / 64 = 2) ∧ (2 < n ∧ b2 / 64 = 2) then
    (if b0 % 16 * 4096 + b1 % 64 * 64 + b2 % 64 ≥ 2048 ∧ (b0 % 16 * 4096 + b1 % 64 * 64 + b2 % 64 < 55296 ∨ (57344 ≤ b0 % 16 * 4096 + b1 % 64 * 64 + b2 % 64 ∧ b0 % 16 * 4096 + b1 % 64 * 64 + b2 % 64 ≤ 1114111))
     then (b0 % 16 * 4096 + b1 % 64 * 64 + b2 % 64, 3) else (65533, 1))
  else if b0 / 8 = 30 ∧ (1 < n ∧ b1 / 64 = 2) ∧ (2 < n ∧ b2 / 64 = 2) ∧ (3 < n ∧ b3 / 64 = 2) then
    (if b0 % 8 * 262144 + b1 % 64 * 4096 + b2 % 64 * 64 + b3 % 64 ≥ 65536 ∧ (b0 % 8 * 262144 + b1 % 64 * 4096 + b2 % 64 * 64 + b3 % 64 < 55296 ∨ (57344 ≤ b0 % 8 * 262144 + b1 % 64 * 4096 + b2 % 64 * 64 + b3 % 64 ∧ b0 % 8 * 262144 + b1 % 64 * 4096 + b2 % 64 * 64 + b3 % 64 ≤ 1114111))
     then (b0 % 8 * 262144 + b1 % 64 * 4096 + b2 % 64 * 64 + b3 % 64, 4) else (65533, 1))
  else (65533, 1)
set_option maxRecDepth 100000 in
set_option maxHeartbeats 2000000 in
theorem dec_nat (n b0 b1 b2 b3 : Nat) : (((Lib.decodeN n b0 b1 b2 b3).1 : Int), ((Lib.decodeN n b0 b1 b2 b3).2 : Int)) = dec n b0 b1 b2 b3 := by
  unfold Lib.decodeN dec
  repeat' split
  all_goals first | rfl | (exfalso; omega) | (apply Prod.ext <;> simp <;> omega)
/-- Four bytes of a text from a place on; 0 beyond its end. -/
def D (l : List Int) : Int × Int := dec l.length (l.getD 0 0) (l.getD 1 0) (l.getD 2 0) (l.getD 3 0)
theorem get_bt (s : ByteArray) (i : Nat) : ((s.get! i).toNat : Int) = (bytesOf s).getD i 0 := by
  rw [bytesOf_getD]
  unfold bt
  rw [Int.toNat_natCast]
  by_cases h : i < s.size
  · rw [dif_pos h, Utf8W.get!_of_lt s i h]
  · rw [dif_neg h]
    have : s.get! i = default := by
      cases s with | mk d => ?_
      show d[i]! = default
      rw [getElem!_neg]
      exact h
    rw [this]
    rfl
theorem decode_eq (s : ByteArray) (h : s.size ≠ 0) : utf8_DecodeRuneInString.f s = some (D (bytesOf s)) := by
  unfold utf8_DecodeRuneInString.f Lib.decodeGo
  rw [if_neg h, Lib.decode_at, dec_nat, Nat.sub_zero]
  unfold D
  rw [get_bt, get_bt, get_bt, get_bt, bytesOf_length]
/-- A sign that stands at the beginning of a text is read. -/
theorem D_utf (r : Int) (h : Sgn r) (t : List Int) : D (utf r ++ t) = (r, ((utf r).length : Int)) := by
  obtain ⟨h1, h2, h3⟩ := h
  unfold D utf dec
  repeat' split
  all_goals simp at *
  all_goals first | omega | (constructor <;> omega) | (exfalso; omega)
theorem utf_len (r : Int) : 1 ≤ (utf r).length ∧ (utf r).length ≤ 4 := by
  unfold utf
  repeat' split
  all_goals simp
/-- What D reads are a sign's bytes, or there is none. -/
theorem D_cases {l : List Int} (hb : Byt l) (h0 : l.length ≠ 0) : (((D l).1 = 65533 ∨ (D l).1 = 0) ∧ (D l).2 = 1 ∧ ∀ r, Sgn r → ∀ t, l ≠ utf r ++ t) ∨ ∃ t, Sgn (D l).1 ∧ l = utf (D l).1 ++ t ∧ (D l).2 = (utf (D l).1).length := by
  by_cases h : ∃ r, Sgn r ∧ ∃ t, l = utf r ++ t
  · obtain ⟨r, hr, t, rfl⟩ := h
    rw [D_utf r hr t]
    exact .inr ⟨t, hr, rfl, rfl⟩
  · left
    have h : ∀ r, Sgn r → ∀ t, l ≠ utf r ++ t := fun r hr t e => h ⟨r, hr, t, e⟩
    suffices hd : ((D l).1 = 65533 ∨ (D l).1 = 0) ∧ (D l).2 = 1 from ⟨hd.1, hd.2, h⟩
    match l, h0 with
    | b0 :: l1, _ =>
      have r0 := hb b0 (by simp)
      unfold D dec
      by_cases c1 : b0 < 128
      · simp only [List.getD_cons_zero, if_pos c1]
        by_cases z : b0 = 0
        · exact ⟨.inr z, trivial⟩
        · exact absurd (show b0 :: l1 = utf b0 ++ l1 by rw [utf, if_pos c1]; rfl) (h b0 ⟨by omega, by omega, by omega⟩ l1)
      simp only [List.getD_cons_zero, if_neg c1]
      by_cases c2 : b0 / 32 = 6 ∧ (1 < ((b0 :: l1).length : Int) ∧ (b0 :: l1).getD 1 0 / 64 = 2)
      · rw [if_pos c2]
        match l1, c2 with
        | b1 :: l2, c2 =>
          have r1 := hb b1 (by simp)
          simp only [List.getD_cons_succ, List.getD_cons_zero] at c2 ⊢
          by_cases c3 : b0 % 32 * 64 + b1 % 64 ≥ 128
          · exact absurd (show b0 :: b1 :: l2 = utf (b0 % 32 * 64 + b1 % 64) ++ l2 by
              rw [utf, if_neg (by omega), if_pos (by omega)]
              simp
              omega) (h _ ⟨by omega, by omega, by omega⟩ l2)
          · rw [if_neg c3]
            exact ⟨.inl rfl, rfl⟩
        | [], c2 => simp at c2
      rw [if_neg c2]
      by_cases c3 : b0 / 16 = 14 ∧ (1 < ((b0 :: l1).length : Int) ∧ (b0 :: l1).getD 1 0 / 64 = 2) ∧ (2 < ((b0 :: l1).length : Int) ∧ (b0 :: l1).getD 2 0 / 64 = 2)
      · rw [if_pos c3]
        match l1, c3 with
        | b1 :: b2 :: l3, c3 =>
          have r1 := hb b1 (by simp)
          have r2 := hb b2 (by simp)
          simp only [List.getD_cons_succ, List.getD_cons_zero] at c3 ⊢
          by_cases c4 : b0 % 16 * 4096 + b1 % 64 * 64 + b2 % 64 ≥ 2048 ∧ (b0 % 16 * 4096 + b1 % 64 * 64 + b2 % 64 < 55296 ∨ (57344 ≤ b0 % 16 * 4096 + b1 % 64 * 64 + b2 % 64 ∧ b0 % 16 * 4096 + b1 % 64 * 64 + b2 % 64 ≤ 1114111))
          · exact absurd (show b0 :: b1 :: b2 :: l3 = utf (b0 % 16 * 4096 + b1 % 64 * 64 + b2 % 64) ++ l3 by
              rw [utf, if_neg (by omega), if_neg (by omega), if_pos (by omega)]
              simp
              omega) (h _ ⟨by omega, by omega, by omega⟩ l3)
          · rw [if_neg c4]
            exact ⟨.inl rfl, rfl⟩
        | [_], c3 => simp at c3
        | [], c3 => simp at c3
      rw [if_neg c3]
      by_cases c4 : b0 / 8 = 30 ∧ (1 < ((b0 :: l1).length : Int) ∧ (b0 :: l1).getD 1 0 / 64 = 2) ∧ (2 < ((b0 :: l1).length : Int) ∧ (b0 :: l1).getD 2 0 / 64 = 2) ∧ (3 < ((b0 :: l1).length : Int) ∧ (b0 :: l1).getD 3 0 / 64 = 2)
      · rw [if_pos c4]
        match l1, c4 with
        | b1 :: b2 :: b3 :: l4, c4 =>
          have r1 := hb b1 (by simp)
          have r2 := hb b2 (by simp)
          have r3 := hb b3 (by simp)
          simp only [List.getD_cons_succ, List.getD_cons_zero] at c4 ⊢
          by_cases c5 : b0 % 8 * 262144 + b1 % 64 * 4096 + b2 % 64 * 64 + b3 % 64 ≥ 65536 ∧ (b0 % 8 * 262144 + b1 % 64 * 4096 + b2 % 64 * 64 + b3 % 64 < 55296 ∨ (57344 ≤ b0 % 8 * 262144 + b1 % 64 * 4096 + b2 % 64 * 64 + b3 % 64 ∧ b0 % 8 * 262144 + b1 % 64 * 4096 + b2 % 64 * 64 + b3 % 64 ≤ 1114111))
          · exact absurd (show b0 :: b1 :: b2 :: b3 :: l4 = utf (b0 % 8 * 262144 + b1 % 64 * 4096 + b2 % 64 * 64 + b3 % 64) ++ l4 by
              rw [utf, if_neg (by omega), if_neg (by omega), if_neg (by omega)]
              simp
              omega) (h _ ⟨by omega, by omega, by omega⟩ l4)
          · rw [if_neg c5]
            exact ⟨.inl rfl, rfl⟩
        | [_, _], c4 => simp at c4
        | [_], c4 => simp at c4
        | [], c4 => simp at c4
      rw [if_neg c4]
      exact ⟨.inl rfl, rfl⟩
def answer (l : List Int) (at_ : Int) : Int × Int :=
  if at_ < 0 ∨ (l.length : Int) ≤ at_ then (-1, 0) else
    if (D (l.drop at_.toNat)).2 = 1 ∧ ((D (l.drop at_.toNat)).1 = 65533 ∨ (D (l.drop at_.toNat)).1 = 0) then (-1, 1) else
      if (D (l.drop at_.toNat)).1 = 65279 ∧ 0 < at_ then (-1, 3) else D (l.drop at_.toNat)
theorem utf_len_mark : (utf 65279).length = 3 := by decide
theorem answer_out {l : List Int} {a : Int} (h : a < 0 ∨ (l.length : Int) ≤ a) : answer l a = (-1, 0) := by unfold answer; rw [if_pos h]
theorem answer_bad {l : List Int} {i : Nat} (h : i < l.length) (h2 : (D (l.drop i)).2 = 1) (h1 : (D (l.drop i)).1 = 65533 ∨ (D (l.drop i)).1 = 0) : answer l (i : Int) = (-1, 1) := by
  unfold answer
  rw [if_neg (by omega), Int.toNat_natCast, if_pos ⟨h2, h1⟩]
theorem answer_at {l : List Int} {i : Nat} {r : Int} {t : List Int} (hr : Sgn r) (h : l.drop i = utf r ++ t) : answer l (i : Int) = if r = 65279 ∧ 0 < (i : Int) then (-1, 3) else (r, ((utf r).length : Int)) := by
  have hD := D_utf r hr t
  have u := utf_len r
  have hlen := congrArg List.length h
  rw [List.length_drop, List.length_append] at hlen
  unfold answer
  rw [if_neg (by omega), Int.toNat_natCast, h, hD, if_neg]
  rintro ⟨h1, h2 | h2⟩
  · have h2 : r = 65533 := h2
    subst h2
    revert h1
    decide
  · have h2 : r = 0 := h2
    subst h2
    exact absurd hr (by decide)
theorem rune_ev (s : ByteArray) (at_ : Int) (_ : s.size < 9223372036854775807) : Ev (fun k => utf_Rune.f k s at_) (answer (bytesOf s) at_) := by
  have hl := bytesOf_length s
  have yes : (at_ < 0 ∨ (s.size : Int) ≤ at_) → Ev (fun k => utf_Rune.j0 k s at_ true) (answer (bytesOf s) at_) := fun h => by
    rw [answer_out (by rw [hl]; exact h)]
    exact Ev.step (fun _ => utf_Rune.j0.eq_2 ..) (ev_pos rfl (Ev.now _))
  by_cases c0 : at_ < 0
  · exact ev_pos c0 (yes (.inl c0))
  by_cases c1 : at_ ≥ (s.size : Int)
  · refine ev_neg c0 ?_
    rw [decide_eq_true c1]
    exact yes (.inr c1)
  refine ev_neg c0 ?_
  rw [decide_eq_false c1]
  obtain ⟨i, rfl⟩ := Int.eq_ofNat_of_zero_le (by omega : 0 ≤ at_)
  have hx : bytesOf (s.extract i s.size) = (bytesOf s).drop i := by rw [bytesOf_extract, ← hl, List.take_length]
  have hn : ((bytesOf s).drop i).length ≠ 0 := by rw [List.length_drop]; omega
  have goal : ∀ R, answer (bytesOf s) (i : Int) = R → Ev (fun _ => if (D ((bytesOf s).drop i)).1 = 65533 then (if (D ((bytesOf s).drop i)).2 ≤ 1 then (some ((-1), mx (D ((bytesOf s).drop i)).2 1)) else (if (D ((bytesOf s).drop i)).1 = 0 then (some ((-1), mx (D ((bytesOf s).drop i)).2 1)) else (if (D ((bytesOf s).drop i)).1 = 65279 then (if (i : Int) > 0 then (some ((-1), mx (D ((bytesOf s).drop i)).2 1)) else (some ((D ((bytesOf s).drop i)).1, (D ((bytesOf s).drop i)).2))) else (some ((D ((bytesOf s).drop i)).1, (D ((bytesOf s).drop i)).2))))) else (if (D ((bytesOf s).drop i)).1 = 0 then (some ((-1), mx (D ((bytesOf s).drop i)).2 1)) else (if (D ((bytesOf s).drop i)).1 = 65279 then (if (i : Int) > 0 then (some ((-1), mx (D ((bytesOf s).drop i)).2 1)) else (some ((D ((bytesOf s).drop i)).1, (D ((bytesOf s).drop i)).2))) else (some ((D ((bytesOf s).drop i)).1, (D ((bytesOf s).drop i)).2))))) R := by
    intro R hR
    rcases D_cases (byt_drop (byt_bytesOf s) i) hn with ⟨h1, h2, _⟩ | ⟨t, h1, h2, h3⟩
    · rw [answer_bad (by omega) h2 h1] at hR
      subst hR
      have e1 : mx (D ((bytesOf s).drop i)).2 1 = 1 := by rw [h2]; decide
      rw [e1]
      rcases h1 with h1 | h1
      · exact ev_pos h1 (ev_pos (by omega) (Ev.now _))
      · exact ev_neg (by omega) (ev_pos h1 (Ev.now _))
    · have u := utf_len (D ((bytesOf s).drop i)).1
      have um := utf_len_mark
      rw [answer_at h1 h2] at hR
      generalize D ((bytesOf s).drop i) = d at h1 h2 h3 u hR ⊢
      obtain ⟨x, y⟩ := d
      dsimp only at h1 h2 h3 u hR ⊢
      obtain ⟨g1, g2, g3⟩ := h1
      have last : Ev (fun _ => if x = 65279 then (if (i : Int) > 0 then (some ((-1), mx y 1)) else (some (x, y))) else (some (x, y))) R := by
        by_cases a : x = 65279
        · by_cases b : (i : Int) > 0
          · have e : mx y 1 = 3 := by rw [h3, a, um]; decide
            rw [e]
            rw [if_pos ⟨a, b⟩] at hR
            subst hR
            exact ev_pos a (ev_pos b (Ev.now _))
          · rw [if_neg (fun h => b h.2), ← h3] at hR
            subst hR
            exact ev_pos a (ev_neg b (Ev.now _))
        · rw [if_neg (fun h => a h.1), ← h3] at hR
          subst hR
          exact ev_neg a (Ev.now _)
      by_cases a : x = 65533
      · have : ¬ y ≤ 1 := by rw [h3, a]; decide
        exact ev_pos a (ev_neg this (ev_neg (by omega) last))
      · exact ev_neg a (ev_neg (by omega) last)
  refine Ev.step (fun _ => utf_Rune.j0.eq_2 ..) (ev_neg (by simp) (ev_pos (by omega) (ev_pos (by omega) ?_)))
  rw [Int.toNat_natCast]
  refine ev_call (ev_eq (decode_eq _ (by rw [← bytesOf_length, hx]; exact hn))) ?_
  rw [hx]
  exact goal _ rfl
end Go.Proofs.YtfolmcfcmonkhaaDoor.Fr
namespace Go.Proofs.YtfolmcfcmonkhaaDoor.Fr
open Go Go.RowKit Go.Proofs.YtfolmcfcmonkhaaDoor.PAll Go.Proofs.YtfolmcfcmonkhaaDoorW.PrintWords Go.Proofs.YtfolmcfcmonkhaaDoorW.PrintLast Go.Proofs.YtfolmcfcmonkhaaDoorPw Go.Proofs.YtfolmcfcmonkhaaDoor
set_option linter.unusedVariables false
set_option linter.unusedSimpArgs false
/-- The sign that stands at the beginning of what is left, behind a text's beginning. -/
def sg (l : List Int) : Int × Int :=
  if l = [] then (-1, 0) else if (D l).2 = 1 ∧ ((D l).1 = 65533 ∨ (D l).1 = 0) then (-1, 1) else if (D l).1 = 65279 then (-1, 3) else D l
def sr (l : List Int) : Int := (sg l).1
def sn (l : List Int) : Nat := (sg l).2.toNat
/-- What is left behind it: at least a byte less. -/
def dp (l : List Int) (n : Nat) : List Int := l.drop (max 1 n)
theorem dp_len {l : List Int} (h : l ≠ []) (n : Nat) : (dp l n).length < l.length := by
  have := List.length_pos_iff.2 h
  rw [dp, List.length_drop]; omega
/-- A letter, or a digit. -/
def isL (r : Int) : Bool := (decide (97 ≤ r) && decide (r ≤ 122)) || ((decide (65 ≤ r) && decide (r ≤ 90)) || (decide (r = 95) || decide (128 ≤ r)))
def isD (r : Int) : Bool := decide (48 ≤ r) && decide (r ≤ 57)
/-- How many bytes of a name. -/
def nm (l : List Int) : Nat := if h : l ≠ [] ∧ (isL (sr l) || isD (sr l)) = true then sn l + nm (dp l (sn l)) else 0
termination_by l.length
decreasing_by exact dp_len h.1 _
/-- Whether a byte belongs to a number, behind another one. -/
def okN (hex : Bool) (prev c : Int) : Bool :=
  if c = 43 ∨ c = 45 then decide (prev = 112 ∨ prev = 80) || (!hex && decide (prev = 101 ∨ prev = 69)) else decide (c = 46) || (decide (c < 128) && (isL c || isD c))
def nl (hex : Bool) : Int → List Int → Nat
  | _, [] => 0
  | prev, c :: t => if okN hex prev c = true then 1 + nl hex c t else 0
def isHex (l : List Int) : Bool := ([48, 120] : List Int).isPrefixOf l || ([48, 88] : List Int).isPrefixOf l
/-- What ends a text within which signs stand: the place behind its end; a fault at its beginning; a fault at a place. -/
inductive Un where
  | ok (j : Nat)
  | frm
  | bad (o : Nat)
def un (e : List Int) (esc : Bool) (st : List Int) (i : Nat) (l : List Int) : Un :=
  if h : l = [] then .frm else
  if e.isPrefixOf l = true then .ok (i + e.length) else
  if st ≠ [] ∧ st.isPrefixOf l = true then .frm else
  if sr l < 0 then .bad i else
  if esc = true ∧ sr l = 92 then
    (if h1 : dp l (sn l) = [] then .frm else if sr (dp l (sn l)) = 10 then .frm else if sr (dp l (sn l)) < 0 then .bad (i + sn l) else un e esc st (i + sn l + sn (dp l (sn l))) (dp (dp l (sn l)) (sn (dp l (sn l)))))
  else un e esc st (i + sn l) (dp l (sn l))
termination_by l.length
decreasing_by
  · exact Nat.lt_trans (dp_len h1 _) (dp_len h _)
  · exact dp_len h _
/-- What stands at a place. -/
inductive Th where
  | bad (o : Nat)
  | blank
  | feed
  | note (n : Nat) (f : Bool)
  | tok (k : Int) (n : Nat)
def qt (kd q : Int) (l : List Int) : Th :=
  match un [q] (decide (q ≠ 96)) (if q = 96 then [] else [10]) 1 (dp l 1) with
  | .ok j => if kd = 3 ∧ j = 2 then .bad 0 else .tok kd j
  | .frm => .bad 0
  | .bad o => .bad o
def bc (l : List Int) : Th :=
  match un [42, 47] false [] 2 (l.drop 2) with
  | .ok j => .note j (decide ((10 : Int) ∈ l.take j))
  | .frm => .bad 0
  | .bad o => .bad o
def lc (i : Nat) (l : List Int) : Th := if h : l = [] then .note i false else if l.headD 0 = 10 then .note i false else if sr l < 0 then .bad i else lc (i + sn l) (dp l (sn l))
termination_by l.length
decreasing_by exact dp_len h _
/-- The signs, longer ones first. -/
def signsI : List (List Int) := signsL.map bytesOf
def op (l : List Int) : Nat := match signsI.find? (fun x => x.isPrefixOf l) with | some x => x.length | none => 0
def next (l : List Int) : Th :=
  if sr l < 0 then .bad 0 else
  if sr l = 10 then .feed else
  if sr l = 32 ∨ sr l = 9 ∨ sr l = 13 then .blank else
  if ([47, 47] : List Int).isPrefixOf l = true then lc 0 l else
  if ([47, 42] : List Int).isPrefixOf l = true then bc l else
  if isL (sr l) = true then .tok 1 (nm l) else
  if isD (sr l) = true ∨ (sr l = 46 ∧ 1 < l.length ∧ isD (l.getD 1 0) = true) then .tok 2 (nl (isHex l) 0 l) else
  if sr l = 39 then qt 3 39 l else
  if sr l = 34 then qt 4 34 l else
  if sr l = 96 then qt 4 96 l else
  if sr l = 59 then .tok 6 1 else
  if op l = 0 then .bad 0 else .tok 5 (op l)
def semi (b : Bool) (a : Nat) : List S27 := if b = true then [⟨6, (⟨#[]⟩ : ByteArray), (a : Int)⟩] else []
/-- The tokens and the comments of what is left, from a place on; whether a line feed asks for a semicolon. -/
def lx (l : List Int) (a : Nat) (prev : Bool) : List S27 × List S27 :=
  if h : l = [] then (semi prev a ++ [⟨0, (⟨#[]⟩ : ByteArray), (a : Int)⟩], []) else
  match next l with
  | .bad o => ([⟨7, (⟨#[]⟩ : ByteArray), ((a + o : Nat) : Int)⟩], [])
  | .blank => lx (dp l 1) (a + 1) prev
  | .feed => (semi prev a ++ (lx (dp l 1) (a + 1) false).1, (lx (dp l 1) (a + 1) false).2)
  | .note n f => (semi (prev && f) a ++ (lx (dp l n) (a + n) (prev && !f)).1, ⟨0, strOfNums (l.take n), (a : Int)⟩ :: (lx (dp l n) (a + n) (prev && !f)).2)
  | .tok k n => (⟨k, strOfNums (l.take n), (a : Int)⟩ :: (lx (dp l n) (a + n) (endsT ⟨k, strOfNums (l.take n), (a : Int)⟩)).1, (lx (dp l n) (a + n) (endsT ⟨k, strOfNums (l.take n), (a : Int)⟩)).2)
termination_by l.length
decreasing_by all_goals exact dp_len h _
/-- Where a text begins, behind a mark. -/
def skp (l : List Int) : Nat := if (utf 65279).isPrefixOf l = true then 3 else 0
def lexB (s : ByteArray) : List S27 × List S27 := lx ((bytesOf s).drop (skp (bytesOf s))) (skp (bytesOf s)) false
end Go.Proofs.YtfolmcfcmonkhaaDoor.Fr
namespace Go.Proofs.YtfolmcfcmonkhaaDoor.Fr
open Go Go.RowKit Go.Proofs.YtfolmcfcmonkhaaDoor.PAll Go.Proofs.YtfolmcfcmonkhaaDoorW.PrintWords Go.Proofs.YtfolmcfcmonkhaaDoorW.PrintLast Go.Proofs.YtfolmcfcmonkhaaDoorPw Go.Proofs.YtfolmcfcmonkhaaDoor
set_option linter.unusedVariables false
set_option linter.unusedSimpArgs false
theorem sg_utf {r : Int} (h : Sgn r) (hm : r ≠ 65279) (t : List Int) : sg (utf r ++ t) = (r, ((utf r).length : Int)) := by
  have hD := D_utf r h t
  have u := utf_len r
  unfold sg
  rw [if_neg (by intro e; have := congrArg List.length e; simp at this; have := this.1; rw [this] at u; simp at u), hD, if_neg, if_neg hm]
  rintro ⟨h1, h2 | h2⟩
  · have h2 : r = 65533 := h2
    subst h2
    revert h1
    decide
  · have h2 : r = 0 := h2
    subst h2
    exact absurd h (by decide)
theorem sg_mark (t : List Int) : sg (utf 65279 ++ t) = (-1, 3) := by
  have hD := D_utf 65279 (by decide) t
  unfold sg
  rw [if_neg (by intro e; have := congrArg List.length e; simp [utf_len_mark] at this), hD, if_neg (by decide), if_pos rfl]
theorem sg_cases {l : List Int} (hb : Byt l) (h0 : l ≠ []) : (sr l = -1 ∧ 1 ≤ sn l ∧ sn l ≤ l.length) ∨ ∃ r t, Sgn r ∧ r ≠ 65279 ∧ l = utf r ++ t ∧ sr l = r ∧ sn l = (utf r).length := by
  have hl := List.length_pos_iff.2 h0
  rcases D_cases hb (by omega) with ⟨h1, h2, _⟩ | ⟨t, h1, h2, h3⟩
  · left
    have e : sg l = (-1, 1) := by unfold sg; rw [if_neg h0, if_pos ⟨h2, h1⟩]
    unfold sr sn
    rw [e]
    exact ⟨rfl, by decide, (show 1 ≤ l.length from hl)⟩
  · by_cases hm : (D l).1 = 65279
    · left
      rw [hm] at h2
      have e : sg l = (-1, 3) := by rw [h2]; exact sg_mark t
      unfold sr sn
      rw [e]
      refine ⟨rfl, by decide, ?_⟩
      have := congrArg List.length h2
      rw [List.length_append, utf_len_mark] at this
      show 3 ≤ l.length
      omega
    · right
      have e : sg l = ((D l).1, ((utf (D l).1).length : Int)) := by
        conv => lhs; rw [h2]
        exact sg_utf h1 hm t
      refine ⟨(D l).1, t, h1, hm, h2, by unfold sr; rw [e], by unfold sn; rw [e]; simp⟩
theorem sg_nil : sr [] = -1 ∧ sn [] = 0 := by
  unfold sr sn sg
  simp
theorem sn_pos {l : List Int} (hb : Byt l) (h0 : l ≠ []) : 1 ≤ sn l ∧ sn l ≤ l.length := by
  rcases sg_cases hb h0 with h | ⟨r, t, h1, h2, h3, h4, h5⟩
  · exact h.2
  · rw [h5]
    have := congrArg List.length h3
    rw [List.length_append] at this
    exact ⟨(utf_len r).1, by omega⟩
theorem dp_eq {l : List Int} {n : Nat} (h : 1 ≤ n) : dp l n = l.drop n := by rw [dp, Nat.max_eq_right h]
theorem dp_sn {l : List Int} (hb : Byt l) (h0 : l ≠ []) : dp l (sn l) = l.drop (sn l) := dp_eq (sn_pos hb h0).1
theorem byt_dp {l : List Int} (hb : Byt l) (n : Nat) : Byt (dp l n) := byt_drop hb _
/-- The program's answer at a place is the sign of what is left there. -/
theorem answer_sg {l : List Int} (hb : Byt l) {i : Nat} (h : 0 < i ∨ skp l = 0) : answer l (i : Int) = (sr (l.drop i), (sn (l.drop i) : Int)) := by
  by_cases hi : l.length ≤ i
  · rw [answer_out (.inr (by omega)), List.drop_eq_nil_of_le hi, sg_nil.1, sg_nil.2]
    rfl
  have h0 : l.drop i ≠ [] := by
    intro e
    have := congrArg List.length e
    rw [List.length_drop] at this
    simp at this
    omega
  rcases D_cases (byt_drop hb i) (by rw [List.length_drop]; omega) with ⟨h1, h2, _⟩ | ⟨t, h1, h2, h3⟩
  · rw [answer_bad (by omega) h2 h1]
    have e : sg (l.drop i) = (-1, 1) := by unfold sg; rw [if_neg h0, if_pos ⟨h2, h1⟩]
    unfold sr sn
    rw [e]
    rfl
  · rw [answer_at h1 h2]
    by_cases hm : (D (l.drop i)).1 = 65279
    · rw [hm] at h2
      have hp : 0 < i := by
        rcases h with h | h
        · exact h
        · apply Nat.pos_of_ne_zero
          intro e
          subst e
          rw [List.drop_zero] at h2
          unfold skp at h
          rw [if_pos (by rw [h2, List.isPrefixOf_iff_prefix]; exact List.prefix_append _ _)] at h
          exact absurd h (by decide)
      rw [if_pos ⟨hm, by omega⟩]
      have e : sg (l.drop i) = (-1, 3) := by rw [h2]; exact sg_mark t
      unfold sr sn
      rw [e]
      rfl
    · rw [if_neg (fun e => hm e.1)]
      have e : sg (l.drop i) = ((D (l.drop i)).1, ((utf (D (l.drop i)).1).length : Int)) := by
        conv => lhs; rw [h2]
        exact sg_utf h1 hm t
      unfold sr sn
      rw [e]
      simp
theorem utf_ascii {b : Int} (h : b < 128) : utf b = [b] := by rw [utf, if_pos h]
theorem sg_ascii {b : Int} (h : 0 < b ∧ b < 128) (t : List Int) : sr (b :: t) = b ∧ sn (b :: t) = 1 := by
  have e := sg_utf (r := b) ⟨h.1, by omega, by omega⟩ (by omega) t
  rw [utf_ascii h.2] at e
  unfold sr sn
  rw [show b :: t = [b] ++ t from rfl, e]
  exact ⟨rfl, rfl⟩
theorem utf_high {r : Int} (h : Sgn r) (h2 : 128 ≤ r) : ∀ x ∈ utf r, 128 ≤ x := by
  obtain ⟨h1, h3, h4⟩ := h
  unfold utf
  intro x hx
  rw [if_neg (by omega)] at hx
  split at hx
  · simp at hx; omega
  · split at hx
    · simp at hx; omega
    · simp at hx; omega
/-- A sign below 128 is its byte. -/
theorem sr_low {l : List Int} (hb : Byt l) (h : 0 ≤ sr l) (h2 : sr l < 128) : ∃ t, l = sr l :: t ∧ sn l = 1 ∧ 0 < sr l := by
  by_cases h0 : l = []
  · rw [h0, sg_nil.1] at h; omega
  rcases sg_cases hb h0 with ⟨e, _⟩ | ⟨r, t, g1, g2, g3, g4, g5⟩
  · omega
  · rw [g4] at h2 ⊢
    rw [utf_ascii h2] at g3 g5
    exact ⟨t, g3, g5, by have := g1.1; omega⟩
end Go.Proofs.YtfolmcfcmonkhaaDoor.Fr
namespace Go.Proofs.YtfolmcfcmonkhaaDoor.Fr
open Go Go.RowKit Go.Proofs.YtfolmcfcmonkhaaDoor.PAll Go.Proofs.YtfolmcfcmonkhaaDoorW.PrintWords Go.Proofs.YtfolmcfcmonkhaaDoorW.PrintLast Go.Proofs.YtfolmcfcmonkhaaDoorPw Go.Proofs.YtfolmcfcmonkhaaDoor
set_option linter.unusedVariables false
set_option linter.unusedSimpArgs false
theorem letter_f (r : Int) : utf_Letter.f r = some (isL r) := by
  unfold utf_Letter.f isL
  repeat' split
  all_goals (congr 1; rw [Bool.eq_iff_iff]; simp; try omega)
theorem digit_f (r : Int) : utf_Digit.f r = some (isD r) := by
  unfold utf_Digit.f isD
  split
  all_goals (congr 1; simp; try omega)
theorem blank_f (r : Int) : utf_Blank.f r = some (decide (r = 32 ∨ r = 9 ∨ r = 13)) := by
  unfold utf_Blank.f
  repeat' split
  all_goals (congr 1; rw [Bool.eq_iff_iff]; simp [*])
theorem pre_iff (a b : List Int) : b.isPrefixOf a = decide (b.length ≤ a.length ∧ a.take b.length = b) := by
  rw [Bool.eq_iff_iff, List.isPrefixOf_iff_prefix, decide_eq_true_eq]
  constructor
  · rintro ⟨t, rfl⟩
    simp
  · rintro ⟨_, h⟩
    rw [← h]
    exact List.take_prefix _ _
theorem prefix_f (a b : ByteArray) : strings_HasPrefix.f a b = some ((bytesOf b).isPrefixOf (bytesOf a)) := by
  unfold strings_HasPrefix.f stringslite_HasPrefix.f
  have la := bytesOf_length a
  have lb := bytesOf_length b
  rw [pre_iff, la, lb]
  by_cases h : b.size ≤ a.size
  · rw [if_pos (by omega), if_pos (by omega), if_pos (by omega)]
    show some _ = some _
    congr 1
    rw [ba_beq, Int.toNat_natCast]
    congr 1
    have e : bytesOf (a.extract 0 b.size) = (bytesOf a).take b.size := by rw [bytesOf_extract, List.drop_zero]
    rw [eq_iff_iff]
    constructor
    · intro he
      exact ⟨h, by rw [← e, he]⟩
    · rintro ⟨_, he⟩
      exact bytes_inj (by rw [e, he])
  · rw [if_neg (by omega)]
    show some _ = some _
    congr 1
    rw [eq_comm, decide_eq_false_iff_not]
    exact fun hh => h hh.1
theorem bytes_drop (s : ByteArray) (i : Nat) : bytesOf (s.extract i s.size) = (bytesOf s).drop i := by rw [bytesOf_extract, ← bytesOf_length s, List.take_length]
/-- A place within which signs are read as what is left says. -/
def Pos (s : ByteArray) (i : Nat) : Prop := 0 < i ∨ skp (bytesOf s) = 0
section
variable {s : ByteArray} (hs : s.size ≤ 1048576)
include hs
theorem rune_at {i : Nat} (h : Pos s i) : Ev (fun k => utf_Rune.f k s (i : Int)) (sr ((bytesOf s).drop i), (sn ((bytesOf s).drop i) : Int)) := by
  rw [← answer_sg (byt_bytesOf s) h]
  exact rune_ev s i (by omega)
theorem run_ev (p : Int) (T N : List S27) : ∀ (n i : Nat), s.size - i ≤ n → i ≤ s.size → Pos s i →
    Ev (fun k => golex_scanner_run.l0 k (i : Int) s p T N) (((i + nm ((bytesOf s).drop i) : Nat) : Int), s, p, T, N)
  | n, i, hn, hi, hp => by
    have hl := bytesOf_length s
    refine Ev.step (fun _ => golex_scanner_run.l0.eq_2 ..) (ev_call (rune_at hs hp) (ev_call (ev_eq (letter_f _)) ?_))
    have hb := byt_drop (byt_bytesOf s) i
    by_cases c : (isL (sr ((bytesOf s).drop i)) || isD (sr ((bytesOf s).drop i))) = true
    · have h0 : (bytesOf s).drop i ≠ [] := by
        intro e
        rw [e, sg_nil.1] at c
        exact absurd c (by decide)
      have sp := sn_pos hb h0
      rw [List.length_drop] at sp
      have e : nm ((bytesOf s).drop i) = sn ((bytesOf s).drop i) + nm ((bytesOf s).drop (i + sn ((bytesOf s).drop i))) := by
        rw [nm, dif_pos ⟨h0, c⟩, dp_sn hb h0, List.drop_drop]
      have hn' : n ≠ 0 := by omega
      obtain ⟨m, rfl⟩ := Nat.exists_eq_succ_of_ne_zero hn'
      have ih := run_ev p T N m (i + sn ((bytesOf s).drop i)) (by omega) (by omega) (.inl (by omega))
      rw [e, ← Nat.add_assoc]
      have w : wrap64 ((i : Int) + (sn ((bytesOf s).drop i) : Int)) = ((i + sn ((bytesOf s).drop i) : Nat) : Int) := by rw [w64 (by omega) (by omega)]; omega
      by_cases cl : isL (sr ((bytesOf s).drop i)) = true
      · exact ev_pos cl (by rw [w]; exact ih)
      · refine ev_neg cl (ev_call (ev_eq (digit_f _)) (ev_pos ?_ (by rw [w]; exact ih)))
        simpa [Bool.eq_false_iff.mpr cl] using c
    · have e : nm ((bytesOf s).drop i) = 0 := by rw [nm, dif_neg (fun h => c h.2)]
      rw [e]
      have c2 := Bool.eq_false_iff.mpr c
      rw [Bool.or_eq_false_iff] at c2
      exact ev_neg (by rw [c2.1]; decide) (ev_call (ev_eq (digit_f _)) (ev_neg (by rw [c2.2]; decide) (ev_ret rfl)))
end
end Go.Proofs.YtfolmcfcmonkhaaDoor.Fr
namespace Go.Proofs.YtfolmcfcmonkhaaDoor.Fr
open Go Go.RowKit Go.Proofs.YtfolmcfcmonkhaaDoor.PAll Go.Proofs.YtfolmcfcmonkhaaDoorW.PrintWords Go.Proofs.YtfolmcfcmonkhaaDoorW.PrintLast Go.Proofs.YtfolmcfcmonkhaaDoorPw Go.Proofs.YtfolmcfcmonkhaaDoor
set_option linter.unusedVariables false
set_option linter.unusedSimpArgs false
/-- What until answers. -/
def ures (s : ByteArray) (p : Int) (T N : List S27) (a : Nat) : Un → Int × Bool × ByteArray × Int × List S27 × List S27
  | .ok j => (((a + j : Nat) : Int), true, s, p, T, N)
  | .frm => (0, false, s, p, T ++ [⟨7, (⟨#[]⟩ : ByteArray), (a : Int)⟩], N)
  | .bad o => (0, false, s, p, T ++ [⟨7, (⟨#[]⟩ : ByteArray), ((a + o : Nat) : Int)⟩], N)
/-- What stands behind a backslash. -/
def unC (e st : List Int) (i : Nat) (l : List Int) : Un :=
  if l = [] then .frm else if sr l = 10 then .frm else if sr l < 0 then .bad i else un e true st (i + sn l) (dp l (sn l))
def unB (e : List Int) (esc : Bool) (st : List Int) (i : Nat) (l : List Int) : Un :=
  if sr l < 0 then .bad i else if esc = true ∧ sr l = 92 then unC e st (i + sn l) (dp l (sn l)) else un e esc st (i + sn l) (dp l (sn l))
theorem un_eq (e : List Int) (esc : Bool) (st : List Int) (i : Nat) (l : List Int) : un e esc st i l =
    if l = [] then .frm else if e.isPrefixOf l = true then .ok (i + e.length) else if st ≠ [] ∧ st.isPrefixOf l = true then .frm else unB e esc st i l := by
  rw [un]
  by_cases h : l = []
  · rw [dif_pos h, if_pos h]
  rw [dif_neg h, if_neg h]
  by_cases h1 : e.isPrefixOf l = true
  · rw [if_pos h1, if_pos h1]
  rw [if_neg h1, if_neg h1]
  by_cases h2 : st ≠ [] ∧ st.isPrefixOf l = true
  · rw [if_pos h2, if_pos h2]
  rw [if_neg h2, if_neg h2, unB]
  by_cases h3 : sr l < 0
  · rw [if_pos h3, if_pos h3]
  rw [if_neg h3, if_neg h3]
  by_cases h4 : esc = true ∧ sr l = 92
  · rw [if_pos h4, if_pos h4, unC]
    obtain ⟨rfl, _⟩ := h4
    by_cases h5 : dp l (sn l) = []
    · rw [dif_pos h5, if_pos h5]
    · rw [dif_neg h5, if_neg h5]
  · rw [if_neg h4, if_neg h4]
section
variable {s : ByteArray} (hs : s.size ≤ 1048576) (p : Int) (T N : List S27) (bad : ∀ x : Int, golex_scanner_bad.f s p T N x = some (false, s, p, T ++ [⟨7, (⟨#[]⟩ : ByteArray), x⟩], N)) (e st : ByteArray) (a : Nat)
include hs bad
theorem un_esc (c : Nat) (hi : a + c ≤ s.size) (hp : 0 < a + c)
    (ih : ∀ c', c < c' → a + c' ≤ s.size → Ev (fun k => golex_scanner_until.l0 k (a : Int) ((a + c' : Nat) : Int) e true st s p T N) (ures s p T N a (un (bytesOf e) true (bytesOf st) c' ((bytesOf s).drop (a + c'))))) :
    Ev (fun k => golex_scanner_until.j2 k (a : Int) ((a + c : Nat) : Int) e true st true s p T N) (ures s p T N a (unC (bytesOf e) (bytesOf st) c ((bytesOf s).drop (a + c)))) := by
  have hl := bytesOf_length s
  have hb := byt_drop (byt_bytesOf s) (a + c)
  refine Ev.step (fun _ => golex_scanner_until.j2.eq_2 ..) (ev_pos rfl (ev_call (rune_at hs (.inl hp)) ?_))
  rw [unC]
  by_cases h1 : (bytesOf s).drop (a + c) = []
  · rw [if_pos h1]
    exact ev_pos (by rw [h1, sg_nil.2]; rfl) (Ev.step (fun _ => golex_scanner_until.j3.eq_2 ..) (ev_pos rfl (ev_call (ev_eq (bad _)) (ev_ret rfl))))
  rw [if_neg h1]
  have sp := sn_pos hb h1
  have sl : a + (c + sn ((bytesOf s).drop (a + c))) ≤ s.size ∧ sn ((bytesOf s).drop (a + c)) ≠ 0 := by
    rw [List.length_drop] at sp
    omega
  refine ev_neg (by omega) (Ev.step (fun _ => golex_scanner_until.j3.eq_2 ..) ?_)
  by_cases c6 : sr ((bytesOf s).drop (a + c)) = 10
  · rw [if_pos c6]
    exact ev_pos (by rw [c6]; rfl) (ev_call (ev_eq (bad _)) (ev_ret rfl))
  rw [if_neg c6]
  refine ev_neg (by simpa using c6) ?_
  by_cases c7 : sr ((bytesOf s).drop (a + c)) < 0
  · rw [if_pos c7]
    exact ev_pos c7 (ev_call (ev_eq (bad _)) (ev_ret rfl))
  rw [if_neg c7]
  refine ev_neg c7 ?_
  have w2 : wrap64 (((a + c : Nat) : Int) + (sn ((bytesOf s).drop (a + c)) : Int)) = ((a + (c + sn ((bytesOf s).drop (a + c))) : Nat) : Int) := by
    rw [w64 (by omega) (by omega)]; omega
  have ds2 : dp ((bytesOf s).drop (a + c)) (sn ((bytesOf s).drop (a + c))) = (bytesOf s).drop (a + (c + sn ((bytesOf s).drop (a + c)))) := by rw [dp_sn hb h1, List.drop_drop, Nat.add_assoc]
  rw [w2, ds2]
  exact ih _ (by omega) sl.1
theorem un_rest (esc : Bool) (c : Nat) (hi : a + c < s.size) (hp : Pos s (a + c))
    (ih : ∀ c', c < c' → a + c' ≤ s.size → Ev (fun k => golex_scanner_until.l0 k (a : Int) ((a + c' : Nat) : Int) e esc st s p T N) (ures s p T N a (un (bytesOf e) esc (bytesOf st) c' ((bytesOf s).drop (a + c'))))) :
    Ev (fun k => golex_scanner_until.j1 k (a : Int) ((a + c : Nat) : Int) e esc st false s p T N) (ures s p T N a (unB (bytesOf e) esc (bytesOf st) c ((bytesOf s).drop (a + c)))) := by
  have hl := bytesOf_length s
  have hb := byt_drop (byt_bytesOf s) (a + c)
  have h0 : (bytesOf s).drop (a + c) ≠ [] := by
    intro h
    have := congrArg List.length h
    rw [List.length_drop, hl] at this
    simp at this
    omega
  refine Ev.step (fun _ => golex_scanner_until.j1.eq_2 ..) (ev_neg (by decide) (ev_call (rune_at hs hp) ?_))
  rw [unB]
  by_cases c3 : sr ((bytesOf s).drop (a + c)) < 0
  · rw [if_pos c3]
    exact ev_pos c3 (ev_call (ev_eq (bad _)) (ev_ret rfl))
  rw [if_neg c3]
  refine ev_neg c3 ?_
  dsimp only
  have sp := sn_pos hb h0
  have sl : a + (c + sn ((bytesOf s).drop (a + c))) ≤ s.size ∧ sn ((bytesOf s).drop (a + c)) ≠ 0 := by
    rw [List.length_drop] at sp
    omega
  have w : wrap64 (((a + c : Nat) : Int) + (sn ((bytesOf s).drop (a + c)) : Int)) = ((a + (c + sn ((bytesOf s).drop (a + c))) : Nat) : Int) := by
    rw [w64 (by omega) (by omega)]; omega
  have ds : dp ((bytesOf s).drop (a + c)) (sn ((bytesOf s).drop (a + c))) = (bytesOf s).drop (a + (c + sn ((bytesOf s).drop (a + c)))) := by rw [dp_sn hb h0, List.drop_drop, Nat.add_assoc]
  rw [w, ds]
  by_cases c4 : esc = true ∧ sr ((bytesOf s).drop (a + c)) = 92
  · rw [if_pos c4]
    obtain ⟨rfl, c5⟩ := c4
    refine ev_pos rfl ?_
    rw [c5]
    exact un_esc hs p T N bad e st a _ sl.1 (by omega) (fun c' h1 h2 => ih c' (by omega) h2)
  · rw [if_neg c4]
    have fin : ∀ b : Bool, b = false → Ev (fun k => golex_scanner_until.j2 k (a : Int) ((a + (c + sn ((bytesOf s).drop (a + c))) : Nat) : Int) e esc st b s p T N) _ := fun b hb' => by
      subst hb'
      exact Ev.step (fun _ => golex_scanner_until.j2.eq_2 ..) (ev_neg (by decide) (ih _ (by omega) sl.1))
    by_cases c8 : esc = true
    · exact ev_pos c8 (fin _ (by simpa using fun h => c4 ⟨c8, h⟩))
    · exact ev_neg c8 (fin _ rfl)
theorem un_round (he : e.size ≤ 2) (esc : Bool) (c : Nat) (hi : a + c ≤ s.size) (hp : Pos s (a + c))
    (ih : ∀ c', c < c' → a + c' ≤ s.size → Ev (fun k => golex_scanner_until.l0 k (a : Int) ((a + c' : Nat) : Int) e esc st s p T N) (ures s p T N a (un (bytesOf e) esc (bytesOf st) c' ((bytesOf s).drop (a + c'))))) :
    Ev (fun k => golex_scanner_until.l0 k (a : Int) ((a + c : Nat) : Int) e esc st s p T N) (ures s p T N a (un (bytesOf e) esc (bytesOf st) c ((bytesOf s).drop (a + c)))) := by
  have hl := bytesOf_length s
  have hle := bytesOf_length e
  refine Ev.step (fun _ => golex_scanner_until.l0.eq_2 ..) ?_
  rw [un_eq]
  by_cases h0 : (bytesOf s).drop (a + c) = []
  · have : s.size ≤ a + c := by
      have := congrArg List.length h0
      rw [List.length_drop] at this
      simp at this
      omega
    rw [if_pos h0]
    exact ev_neg (by omega) (ev_call (ev_eq (bad _)) (ev_ret rfl))
  have lt : a + c < s.size := by
    have := List.length_pos_iff.2 h0
    rw [List.length_drop] at this
    omega
  rw [if_neg h0]
  refine ev_pos (by omega) (ev_pos (by omega) (ev_pos (by omega) ?_))
  rw [Int.toNat_natCast]
  refine ev_call (ev_eq (prefix_f _ _)) ?_
  rw [bytes_drop]
  by_cases c1 : (bytesOf e).isPrefixOf ((bytesOf s).drop (a + c)) = true
  · rw [if_pos c1]
    refine ev_pos c1 (ev_ret ?_)
    rw [w64 (by omega) (by omega), hle, ures]
    simp only [Prod.mk.injEq, and_true]
    omega
  rw [if_neg c1]
  refine ev_neg c1 ?_
  have go := un_rest hs p T N bad e st a esc c lt hp ih
  by_cases c2 : st.toList = ([] : List UInt8)
  · have e0 : bytesOf st = [] := by rw [ba_toList] at c2; unfold bytesOf; rw [c2]; rfl
    rw [if_neg (fun h => h.1 e0)]
    exact ev_pos c2 go
  · have e0 : bytesOf st ≠ [] := by
      intro h
      apply c2
      rw [ba_toList]
      unfold bytesOf at h
      simpa using h
    refine ev_neg c2 (ev_call (ev_eq (prefix_f _ _)) ?_)
    rw [bytes_drop]
    by_cases c3 : (bytesOf st).isPrefixOf ((bytesOf s).drop (a + c)) = true
    · rw [if_pos ⟨e0, c3⟩, c3]
      exact Ev.step (fun _ => golex_scanner_until.j1.eq_2 ..) (ev_pos rfl (ev_call (ev_eq (bad _)) (ev_ret rfl)))
    · rw [if_neg (fun h => c3 h.2), Bool.eq_false_iff.mpr c3]
      exact go
theorem un_ev (he : e.size ≤ 2) (esc : Bool) (c : Nat) (hi : a + c ≤ s.size) (hp : Pos s (a + c)) :
    Ev (fun k => golex_scanner_until.l0 k (a : Int) ((a + c : Nat) : Int) e esc st s p T N) (ures s p T N a (un (bytesOf e) esc (bytesOf st) c ((bytesOf s).drop (a + c)))) := by
  have main : ∀ n c, s.size - (a + c) ≤ n → a + c ≤ s.size → Pos s (a + c) → Ev (fun k => golex_scanner_until.l0 k (a : Int) ((a + c : Nat) : Int) e esc st s p T N) (ures s p T N a (un (bytesOf e) esc (bytesOf st) c ((bytesOf s).drop (a + c)))) := by
    intro n
    induction n with
    | zero => exact fun c h1 h2 h3 => un_round hs p T N bad e st a he esc c h2 h3 (fun c' g1 g2 => by exfalso; omega)
    | succ m ih => exact fun c h1 h2 h3 => un_round hs p T N bad e st a he esc c h2 h3 (fun c' g1 g2 => ih c' (by omega) g2 (.inl (by omega)))
  exact main _ c (Nat.le_refl _) hi hp
end
end Go.Proofs.YtfolmcfcmonkhaaDoor.Fr
namespace Go.Proofs.YtfolmcfcmonkhaaDoor.Fr
open Go Go.RowKit Go.Proofs.YtfolmcfcmonkhaaDoor.PAll Go.Proofs.YtfolmcfcmonkhaaDoorW.PrintWords Go.Proofs.YtfolmcfcmonkhaaDoorW.PrintLast Go.Proofs.YtfolmcfcmonkhaaDoorPw Go.Proofs.YtfolmcfcmonkhaaDoor
set_option linter.unusedVariables false
set_option linter.unusedSimpArgs false
theorem idx2 (x y u : UInt8) : decide (0 ≤ Lib.indexByte [x, y] u) = (decide (u = x) || decide (u = y)) := by
  unfold Lib.indexByte Lib.indexByte Lib.indexByte
  by_cases h1 : x = u
  · subst h1; simp
  · by_cases h2 : y = u
    · subst h2; simp [h1]
    · have h3 : ¬ u = x := fun e => h1 e.symm
      have h4 : ¬ u = y := fun e => h2 e.symm
      simp [h1, h2, h3, h4]
theorem bt_u8 (s : ByteArray) (i : Int) : ∃ u : UInt8, bt s i = (u.toNat : Int) := by
  unfold bt
  split
  · exact ⟨_, rfl⟩
  · exact ⟨0, rfl⟩
theorem u8_back (u : UInt8) : ((u.toNat : Int)).toNat.toUInt8 = u := by simp
theorem u8_eq (u x : UInt8) : (u = x) = ((u.toNat : Int) = (x.toNat : Int)) := by
  rw [eq_iff_iff]
  constructor
  · rintro rfl; rfl
  · intro h; exact UInt8.toNat_inj.1 (by omega)
/-- Whether a byte is one of two. -/
theorem index2 (x y : UInt8) (s : ByteArray) (i : Int) : ∃ t : Int, strings_IndexByte.f (⟨#[x, y]⟩ : ByteArray) (bt s i) = some t ∧ decide (t ≥ 0) = (decide (bt s i = (x.toNat : Int)) || decide (bt s i = (y.toNat : Int))) := by
  obtain ⟨u, hu⟩ := bt_u8 s i
  refine ⟨_, rfl, ?_⟩
  rw [hu, u8_back]
  have := idx2 x y u
  simp only [u8_eq] at this
  exact this
theorem idx_pP (s : ByteArray) (i : Int) : ∃ t : Int, strings_IndexByte.f (⟨#[112, 80]⟩ : ByteArray) (bt s i) = some t ∧ decide (t ≥ 0) = (decide (bt s i = 112) || decide (bt s i = 80)) := index2 112 80 s i
theorem idx_eE (s : ByteArray) (i : Int) : ∃ t : Int, strings_IndexByte.f (⟨#[101, 69]⟩ : ByteArray) (bt s i) = some t ∧ decide (t ≥ 0) = (decide (bt s i = 101) || decide (bt s i = 69)) := index2 101 69 s i
theorem drop_bt {s : ByteArray} {i : Nat} (h : i < s.size) : (bytesOf s).drop i = bt s (i : Int) :: (bytesOf s).drop (i + 1) := by
  have hl := bytesOf_length s
  rw [List.drop_eq_getElem_cons (by omega)]
  congr 1
  rw [← bytesOf_getD, List.getD_eq_getElem?_getD, List.getElem?_eq_getElem (by omega)]
  rfl
theorem drop_nil {s : ByteArray} {i : Nat} (h : s.size ≤ i) : (bytesOf s).drop i = [] := List.drop_eq_nil_of_le (by rw [bytesOf_length]; exact h)
def ok2 (b : Int) : Bool := decide (b = 46) || (decide (b < 128) && (isL b || isD b))
def pw (hex : Bool) (prev b : Int) : Bool := decide (b = 43 ∨ b = 45) && (decide (prev = 112 ∨ prev = 80) || (!hex && decide (prev = 101 ∨ prev = 69)))
theorem okN_pw (hex : Bool) (prev b : Int) : okN hex prev b = (pw hex prev b || ok2 b) := by
  unfold okN pw ok2
  by_cases h : b = 43 ∨ b = 45
  · rw [if_pos h, decide_eq_true h, Bool.true_and]
    have : (decide (b = 46) || (decide (b < 128) && (isL b || isD b))) = false := by
      unfold isL isD
      rcases h with rfl | rfl <;> decide
    rw [this, Bool.or_false]
  · rw [if_neg h, decide_eq_false h, Bool.false_and, Bool.false_or]
section
variable {s : ByteArray} (hs : s.size ≤ 1048576) (p : Int) (T N : List S27)
include hs
theorem j2_ev (a : Nat) (hex : Bool) (i : Nat) (b : Int) (hb : 0 ≤ b ∧ b ≤ 255) (f : Bool) (R : Int × ByteArray × Int × List S27 × List S27) (hi : i < s.size)
    (go : (f || ok2 b) = true → Ev (fun k => golex_scanner_number.l0 k (a : Int) hex ((i + 1 : Nat) : Int) s p T N) R) (stop : (f || ok2 b) = false → R = ((i : Int), s, p, T, N)) :
    Ev (fun k => golex_scanner_number.j2 k (a : Int) hex (i : Int) b f s p T N) R := by
  have w : wrap64 ((i : Int) + 1) = ((i + 1 : Nat) : Int) := by rw [w64 (by omega) (by omega)]; omega
  have w2 : wrap32 b = b := by unfold wrap32; omega
  refine Ev.step (fun _ => golex_scanner_number.j2.eq_2 ..) ?_
  rw [w, w2]
  cases f with
  | true => exact ev_pos rfl (go rfl)
  | false =>
    refine ev_neg (by decide) ?_
    unfold ok2 at go stop
    by_cases c1 : b = 46
    · exact ev_pos c1 (go (by simp [c1]))
    refine ev_neg c1 ?_
    by_cases c2 : b ≥ 128
    · refine ev_pos c2 (ev_ret (stop ?_).symm)
      have : ¬ b < 128 := by omega
      simp [c1, this]
    refine ev_neg c2 (ev_call (ev_eq (letter_f _)) ?_)
    have c3 : b < 128 := by omega
    by_cases c4 : isL b = true
    · exact ev_pos c4 (go (by simp [c3, c4]))
    refine ev_neg c4 (ev_call (ev_eq (digit_f _)) ?_)
    by_cases c5 : isD b = true
    · exact ev_pos c5 (go (by simp [c3, c5]))
    · exact ev_neg c5 (ev_ret (stop (by simp [c1, c4, c5])).symm)
theorem num_l0 (a : Nat) (hex : Bool) : ∀ (n i : Nat) (prev : Int), s.size - i ≤ n → a ≤ i → i ≤ s.size → (prev = if i = a then 0 else bt s ((i - 1 : Nat) : Int)) →
    Ev (fun k => golex_scanner_number.l0 k (a : Int) hex (i : Int) s p T N) (((i + nl hex prev ((bytesOf s).drop i) : Nat) : Int), s, p, T, N)
  | n, i, prev, hn, ha, hi, hp => by
    refine Ev.step (fun _ => golex_scanner_number.l0.eq_2 ..) ?_
    by_cases h0 : s.size ≤ i
    · rw [drop_nil h0]
      exact ev_neg (by omega) (ev_ret rfl)
    have hn' : n ≠ 0 := by omega
    obtain ⟨m, rfl⟩ := Nat.exists_eq_succ_of_ne_zero hn'
    have br := bt_range s (i : Int)
    have ih := num_l0 a hex m (i + 1) (bt s (i : Int)) (by omega) (by omega) (by omega) (by rw [if_neg (by omega), Nat.add_sub_cancel])
    rw [drop_bt (by omega)]
    refine ev_pos (by omega) (ev_pos (by omega) ?_)
    have fin : ∀ f : Bool, f = pw hex prev (bt s (i : Int)) → Ev (fun k => golex_scanner_number.j2 k (a : Int) hex (i : Int) (bt s (i : Int)) f s p T N) (((i + nl hex prev (bt s (i : Int) :: (bytesOf s).drop (i + 1)) : Nat) : Int), s, p, T, N) := by
      rintro f rfl
      refine j2_ev hs p T N a hex i _ br _ _ (by omega) ?_ ?_
      · intro h
        rw [nl, okN_pw, if_pos h, ← Nat.add_assoc]
        exact ih
      · intro h
        rw [nl, okN_pw, h]
        rfl
    have pwc : (bt s (i : Int) = 43 ∨ bt s (i : Int) = 45) → pw hex prev (bt s (i : Int)) = ((decide (prev = 112) || decide (prev = 80)) || (!hex && (decide (prev = 101) || decide (prev = 69)))) := fun hc => by
      unfold pw
      rw [decide_eq_true hc, Bool.true_and, Bool.decide_or, Bool.decide_or]
    have sgn : (bt s (i : Int) = 43 ∨ bt s (i : Int) = 45) → a < i →
        Ev (fun k => (if 0 ≤ (wrap64 ((i : Int) - 1)) then (if (wrap64 ((i : Int) - 1)) < (s.size : Int) then ((strings_IndexByte.f (⟨#[112, 80]⟩ : ByteArray) (bt s (wrap64 ((i : Int) - 1)))).bind fun t145 => (if t145 ≥ 0 then (golex_scanner_number.j2 k a hex i (bt s i) true s p T N) else (if hex = true then (golex_scanner_number.j2 k a hex i (bt s i) false s p T N) else ((strings_IndexByte.f (⟨#[101, 69]⟩ : ByteArray) (bt s (wrap64 ((i : Int) - 1)))).bind fun t146 => (golex_scanner_number.j2 k a hex i (bt s i) (decide (t146 ≥ 0)) s p T N))))) else (none)) else (none)))
          (((i + nl hex prev (bt s (i : Int) :: (bytesOf s).drop (i + 1)) : Nat) : Int), s, p, T, N) := by
      intro hc hai
      have w : wrap64 ((i : Int) - 1) = ((i - 1 : Nat) : Int) := by rw [w64 (by omega) (by omega)]; omega
      rw [if_neg (by omega)] at hp
      obtain ⟨t, e1, e2⟩ := idx_pP s ((i - 1 : Nat) : Int)
      obtain ⟨t', e3, e4⟩ := idx_eE s ((i - 1 : Nat) : Int)
      rw [w]
      rw [← hp] at e1 e2 e3 e4 ⊢
      refine ev_pos (by omega) (ev_pos (by omega) (ev_call (ev_eq e1) ?_))
      by_cases c1 : t ≥ 0
      · refine ev_pos c1 (fin _ ?_)
        rw [pwc hc, ← e2, decide_eq_true c1, Bool.true_or]
      refine ev_neg c1 ?_
      rw [decide_eq_false c1] at e2
      by_cases c2 : hex = true
      · refine ev_pos c2 (fin _ ?_)
        rw [pwc hc, ← e2, c2]
        rfl
      · refine ev_neg c2 (ev_call (ev_eq e3) (fin _ ?_))
        rw [pwc hc, ← e2, Bool.eq_false_iff.mpr c2, e4]
        simp
    by_cases c1 : (i : Int) > (a : Int)
    · refine ev_pos c1 ?_
      by_cases c2 : bt s (i : Int) = 43
      · exact ev_pos c2 (sgn (.inl c2) (by omega))
      refine ev_neg c2 ?_
      by_cases c3 : bt s (i : Int) = 45
      · exact ev_pos c3 (sgn (.inr c3) (by omega))
      · refine ev_neg c3 (fin _ ?_)
        unfold pw
        rw [decide_eq_false (by simp [c2, c3]), Bool.false_and]
    · refine ev_neg c1 (fin _ ?_)
      rw [if_pos (by omega)] at hp
      unfold pw
      rw [hp]
      simp
theorem number_ev (a : Nat) (ha : a ≤ s.size) : Ev (fun k => golex_scanner_number.f k s p T N (a : Int)) (((a + nl (isHex ((bytesOf s).drop a)) 0 ((bytesOf s).drop a) : Nat) : Int), s, p, T, N) := by
  unfold golex_scanner_number.f
  have h : ∀ hex : Bool, Ev (fun k => golex_scanner_number.j0 k (a : Int) hex s p T N) (((a + nl hex 0 ((bytesOf s).drop a) : Nat) : Int), s, p, T, N) := fun hex => Ev.step (fun _ => golex_scanner_number.j0.eq_2 ..) (num_l0 hs p T N a hex _ a 0 (Nat.le_refl _) (Nat.le_refl _) ha (by rw [if_pos rfl]))
  refine ev_pos (by omega) (ev_pos (by omega) (ev_call (ev_eq (prefix_f _ _)) ?_))
  rw [Int.toNat_natCast, bytes_drop]
  unfold isHex
  by_cases c1 : (bytesOf (⟨#[48, 120]⟩ : ByteArray)).isPrefixOf ((bytesOf s).drop a) = true
  · refine ev_pos c1 ?_
    have c1' : ([48, 120] : List Int).isPrefixOf ((bytesOf s).drop a) = true := c1
    rw [c1', Bool.true_or]
    exact h true
  · refine ev_neg c1 (ev_call (ev_eq (prefix_f _ _)) ?_)
    have c1' : ([48, 120] : List Int).isPrefixOf ((bytesOf s).drop a) = false := Bool.eq_false_iff.mpr c1
    rw [c1', Bool.false_or, bytes_drop]
    exact h _
end
end Go.Proofs.YtfolmcfcmonkhaaDoor.Fr
namespace Go.Proofs.YtfolmcfcmonkhaaDoor.Fr
open Go Go.RowKit Go.Proofs.YtfolmcfcmonkhaaDoor.PAll Go.Proofs.YtfolmcfcmonkhaaDoorW.PrintWords Go.Proofs.YtfolmcfcmonkhaaDoorW.PrintLast Go.Proofs.YtfolmcfcmonkhaaDoorPw Go.Proofs.YtfolmcfcmonkhaaDoor
set_option linter.unusedVariables false
set_option linter.unusedSimpArgs false
/-- Lists that are short. -/
def Sm (T : List S27) : Prop := T.length < 3000000
theorem Sm.lt {T : List S27} (h : Sm T) : T.length < 4398046511104 := Nat.lt_trans h (by decide)
theorem bad_f (s : ByteArray) (p : Int) {T : List S27} (N : List S27) (h : Sm T) (x : Int) : golex_scanner_bad.f s p T N x = some (false, s, p, T ++ [⟨7, (⟨#[]⟩ : ByteArray), x⟩], N) := by
  unfold golex_scanner_bad.f
  rw [if_pos h.lt]
theorem put_f (s : ByteArray) (p : Int) {T : List S27} (N : List S27) (h : Sm T) (k : Int) (i j : Nat) (h1 : i ≤ j) (h2 : j ≤ s.size) : golex_scanner_put.f s p T N k (i : Int) (j : Int) = some (s, (j : Int), T ++ [⟨k, s.extract i j, (i : Int)⟩], N) := by
  unfold golex_scanner_put.f
  rw [if_pos ⟨by omega, by omega, by omega, h.lt⟩]
  rfl
theorem feed_f (s : ByteArray) (p : Int) {T : List S27} (N : List S27) (h : Sm T) (x : Int) : golex_scanner_feed.f s p T N x = some (s, p, feedT T x, N) := by
  unfold golex_scanner_feed.f
  rw [if_pos h.lt]
theorem noted_f (s : ByteArray) (p : Int) {N : List S27} (h : Sm N) (i j : Nat) (h1 : i ≤ j) (h2 : j ≤ s.size) : noted s p N (i : Int) (j : Int) = some (N ++ [⟨0, s.extract i j, (i : Int)⟩]) := by
  unfold noted
  rw [if_pos ⟨by omega, by omega, by omega, h.lt⟩]
  rfl
/-- What a step answers. -/
def tres (s : ByteArray) (i : Nat) (T N : List S27) : Th → Bool × ByteArray × Int × List S27 × List S27
  | .bad o => (false, s, (i : Int), T ++ [⟨7, (⟨#[]⟩ : ByteArray), ((i + o : Nat) : Int)⟩], N)
  | .blank => (true, s, ((i + 1 : Nat) : Int), T, N)
  | .feed => (true, s, ((i + 1 : Nat) : Int), feedT T (i : Int), N)
  | .note n f => (true, s, ((i + n : Nat) : Int), if f = true then feedT T (i : Int) else T, N ++ [⟨0, s.extract i (i + n), (i : Int)⟩])
  | .tok k n => (true, s, ((i + n : Nat) : Int), T ++ [⟨k, s.extract i (i + n), (i : Int)⟩], N)
theorem un_le {e : List Int} (esc : Bool) (st : List Int) : ∀ (n i : Nat) (l : List Int) (j : Nat), Byt l → l.length ≤ n → un e esc st i l = .ok j → i + e.length ≤ j ∧ j ≤ i + l.length ∧ ((l.take (j - i)).drop (j - i - e.length) = e)
  | n, i, l, j, hb, hn, h => by
    rw [un_eq] at h
    by_cases h0 : l = []
    · rw [if_pos h0] at h; cases h
    rw [if_neg h0] at h
    by_cases h1 : e.isPrefixOf l = true
    · rw [if_pos h1] at h
      have h := Un.ok.inj h
      subst h
      rw [pre_iff, decide_eq_true_eq] at h1
      refine ⟨Nat.le_refl _, by omega, ?_⟩
      rw [Nat.add_sub_cancel_left, Nat.sub_self, List.drop_zero]
      exact h1.2
    rw [if_neg h1] at h
    split at h
    · cases h
    have lp := List.length_pos_iff.2 h0
    have sp := sn_pos hb h0
    have hn' : n ≠ 0 := by omega
    obtain ⟨m, rfl⟩ := Nat.exists_eq_succ_of_ne_zero hn'
    have step : ∀ (esc' : Bool) (q i' : Nat) (l' : List Int), 1 ≤ q → q ≤ l.length → i' = i + q → l' = l.drop q → un e esc' st i' l' = .ok j → i + e.length ≤ j ∧ j ≤ i + l.length ∧ ((l.take (j - i)).drop (j - i - e.length) = e) := by
      rintro esc' q i' l' hq hq2 rfl rfl hu
      obtain ⟨g1, g2, g3⟩ := un_le esc' st m (i + q) (l.drop q) j (byt_drop hb q) (by rw [List.length_drop]; omega) hu
      rw [List.length_drop] at g2
      refine ⟨by omega, by omega, ?_⟩
      rw [List.take_drop, List.drop_drop] at g3
      rw [show q + (j - (i + q)) = j - i by omega, show q + (j - (i + q) - e.length) = j - i - e.length by omega] at g3
      exact g3
    rw [unB] at h
    split at h
    · cases h
    split at h
    · rw [unC] at h
      have hb2 := byt_dp hb (sn l)
      rw [dp_sn hb h0] at h hb2
      by_cases h5 : l.drop (sn l) = []
      · rw [if_pos h5] at h; cases h
      rw [if_neg h5] at h
      split at h
      · cases h
      split at h
      · cases h
      have sp2 := sn_pos hb2 h5
      rw [List.length_drop] at sp2
      exact step true (sn l + sn (l.drop (sn l))) _ _ (by omega) (by omega) (by omega) (by rw [dp_sn hb2 h5, List.drop_drop]) h
    · exact step esc (sn l) _ _ sp.1 sp.2 rfl (dp_sn hb h0) h
section
variable {s : ByteArray} (hs : s.size ≤ 1048576) (T N : List S27) (hT : Sm T) (hN : Sm N)
include hs hT
theorem text_ev (kd : Int) (i : Nat) (hi : i < s.size) : Ev (fun k => golex_scanner_text.f k s (i : Int) T N kd) (tres s i T N (qt kd (bt s (i : Int)) ((bytesOf s).drop i))) := by
  have hl := bytesOf_length s
  unfold golex_scanner_text.f
  have w : wrap64 ((i : Int) + 1) = ((i + 1 : Nat) : Int) := by rw [w64 (by omega) (by omega)]; omega
  have w2 : wrap64 ((i : Int) + 2) = ((i + 2 : Nat) : Int) := by rw [w64 (by omega) (by omega)]; omega
  rw [w]
  refine ev_pos (by omega) (ev_pos (by omega) (ev_pos (by omega) ?_))
  rw [Int.toNat_natCast, Int.toNat_natCast]
  have eb : bytesOf (s.extract i (i + 1)) = [bt s (i : Int)] := by
    rw [bytesOf_extract, ← List.take_drop, drop_bt hi]
    rfl
  have es : (s.extract i (i + 1)).size = 1 := by rw [← bytesOf_length, eb]; rfl
  have main : ∀ st : ByteArray, (st.toList != ([] : List UInt8)) = decide (bt s (i : Int) ≠ 96) → bytesOf st = (if bt s (i : Int) = 96 then [] else [10]) →
      Ev (fun k => golex_scanner_text.j0 k kd (i : Int) (s.extract i (i + 1)) st s (i : Int) T N) (tres s i T N (qt kd (bt s (i : Int)) ((bytesOf s).drop i))) := by
    intro st h1 h2
    refine Ev.step (fun _ => golex_scanner_text.j0.eq_2 ..) ?_
    rw [h1, w]
    have hu := un_ev hs (i : Int) T N (bad_f s (i : Int) N hT) (s.extract i (i + 1)) st i (by omega) (decide (bt s (i : Int) ≠ 96)) 1 hi (.inl (by omega))
    refine ev_call hu ?_
    rw [eb, h2, qt, dp_eq (Nat.le_refl 1), List.drop_drop]
    cases e : un [bt s (i : Int)] (decide (bt s (i : Int) ≠ 96)) (if bt s (i : Int) = 96 then [] else [10]) 1 ((bytesOf s).drop (i + 1)) with
    | frm => exact ev_neg Bool.false_ne_true (ev_ret rfl)
    | bad o => exact ev_neg Bool.false_ne_true (ev_ret rfl)
    | ok j =>
      obtain ⟨g1, g2, g3⟩ := un_le _ _ _ 1 _ _ (byt_drop (byt_bytesOf s) (i + 1)) (Nat.le_refl _) e
      rw [List.length_drop, hl] at g2
      have pb : ∀ b : Bool, b = decide (kd = 3 ∧ j = 2) → Ev (fun k => golex_scanner_text.j1 k kd (i : Int) ((i + j : Nat) : Int) b s (i : Int) T N) (tres s i T N (if kd = 3 ∧ j = 2 then .bad 0 else .tok kd j)) := by
        rintro b rfl
        refine Ev.step (fun _ => golex_scanner_text.j1.eq_2 ..) ?_
        by_cases c : kd = 3 ∧ j = 2
        · rw [if_pos c]
          exact ev_pos (decide_eq_true c) (ev_call (ev_eq (bad_f _ _ _ hT _)) (ev_ret rfl))
        · rw [if_neg c]
          exact ev_neg (by simp only [decide_eq_true_eq]; exact c) (ev_call (ev_eq (put_f _ _ _ hT _ i (i + j) (by omega) (by omega))) (ev_ret rfl))
      refine ev_pos rfl ?_
      by_cases c : kd = 3
      · refine ev_pos c (pb _ ?_)
        rw [w2, ures, Bool.eq_iff_iff]
        simp [c]
        omega
      · exact ev_neg c (pb _ (by simp [c]))
  by_cases c : bt s (i : Int) = 96
  · refine ev_pos ?_ (main _ (by simp [c]) (by rw [if_pos c]; rfl))
    rw [ba_toList]
    have : (s.extract i (i + 1)) = (⟨#[96]⟩ : ByteArray) := bytes_inj (by rw [eb, c]; rfl)
    rw [this]
  · refine ev_neg ?_ (main _ (by simp [c]) (by rw [if_neg c]; rfl))
    intro h
    rw [ba_toList] at h
    apply c
    have : bytesOf (s.extract i (i + 1)) = [96] := by unfold bytesOf; rw [h]; rfl
    rw [eb] at this
    exact List.head_eq_of_cons_eq this
end
end Go.Proofs.YtfolmcfcmonkhaaDoor.Fr
namespace Go.Proofs.YtfolmcfcmonkhaaDoor.Fr
open Go Go.RowKit Go.Proofs.YtfolmcfcmonkhaaDoor.PAll Go.Proofs.YtfolmcfcmonkhaaDoorW.PrintWords Go.Proofs.YtfolmcfcmonkhaaDoorW.PrintLast Go.Proofs.YtfolmcfcmonkhaaDoorPw Go.Proofs.YtfolmcfcmonkhaaDoor
set_option linter.unusedVariables false
set_option linter.unusedSimpArgs false
theorem index_split (c : UInt8) : ∀ l : List UInt8, (Lib.indexByte l c = -1 ∧ c ∉ l) ∨ ∃ u r, l = u ++ c :: r ∧ c ∉ u ∧ Lib.indexByte l c = (u.length : Int)
  | [] => .inl ⟨rfl, by simp⟩
  | b :: l => by
    unfold Lib.indexByte
    by_cases h : b = c
    · right
      subst h
      exact ⟨[], l, rfl, by simp, by simp⟩
    · have hb : (b == c) = false := by simpa using h
      have hc : ¬ c = b := fun e => h e.symm
      rw [hb]
      rcases index_split c l with ⟨h1, h2⟩ | ⟨u, r, h1, h2, h3⟩
      · left
        rw [h1]
        exact ⟨rfl, by simp [h2, hc]⟩
      · right
        refine ⟨b :: u, r, by rw [h1]; rfl, by simp [h2, hc], ?_⟩
        have h4 : (Lib.indexByte l c == -1) = false := by
          rw [h3, beq_eq_false_iff_ne]
          omega
        rw [h4, h3]
        simp
theorem ten_mem (l : List UInt8) : (10 : Int) ∈ l.map (fun b => (b.toNat : Int)) ↔ (10 : UInt8) ∈ l := by
  rw [List.mem_map]
  constructor
  · rintro ⟨b, hb, e⟩
    have : b = 10 := UInt8.toNat_inj.1 (by show b.toNat = 10; omega)
    exact this ▸ hb
  · intro h
    exact ⟨10, h, rfl⟩
/-- Where a line feed stands. -/
theorem feed_split (x : ByteArray) : (Lib.indexByte x.data.toList 10 = -1 ∧ (10 : Int) ∉ bytesOf x) ∨ ∃ u r : List Int, bytesOf x = u ++ 10 :: r ∧ (10 : Int) ∉ u ∧ Lib.indexByte x.data.toList 10 = (u.length : Int) := by
  rcases index_split 10 x.data.toList with ⟨h1, h2⟩ | ⟨u, r, h1, h2, h3⟩
  · exact .inl ⟨h1, fun h => h2 ((ten_mem _).1 h)⟩
  · right
    refine ⟨u.map (fun b => (b.toNat : Int)), r.map (fun b => (b.toNat : Int)), ?_, fun h => h2 ((ten_mem _).1 h), by rw [h3, List.length_map]⟩
    unfold bytesOf
    rw [h1, List.map_append]
    rfl
theorem feed_in (x : ByteArray) : (0 ≤ Lib.indexByte x.data.toList 10) ↔ (10 : Int) ∈ bytesOf x := by
  rcases feed_split x with ⟨h1, h2⟩ | ⟨u, r, h1, h2, h3⟩
  · rw [h1]
    exact ⟨fun h => absurd h (by decide), fun h => absurd h h2⟩
  · rw [h3, h1]
    exact ⟨fun _ => by simp, fun _ => by omega⟩
/-- A sign ends ahead of a byte below 128. -/
theorem sign_in {l u r : List Int} (hb : Byt l) (e : l = u ++ r) (hu : u ≠ []) (hr : r = [] ∨ r.headD 0 < 128) (h : 0 ≤ sr l) : sn l ≤ u.length := by
  have lu := List.length_pos_iff.2 hu
  rcases sg_cases hb (by rw [e]; simp [hu]) with ⟨h1, _⟩ | ⟨c, t, g1, g2, g3, g4, g5⟩
  · omega
  rw [g5]
  by_cases c1 : c < 128
  · rw [utf_ascii c1]
    exact lu
  apply Nat.le_of_not_lt
  intro hlt
  have hh := utf_high g1 (by omega)
  have e2 : utf c ++ t = u ++ r := by rw [← g3, e]
  have e3 : (utf c ++ t)[u.length]? = (u ++ r)[u.length]? := by rw [e2]
  rw [List.getElem?_append_left hlt, List.getElem?_append_right (Nat.le_refl _), Nat.sub_self] at e3
  rw [List.getElem?_eq_getElem hlt] at e3
  cases r with
  | nil => simp at e3
  | cons y z =>
    simp at e3 hr
    have := hh _ (List.getElem_mem hlt)
    omega
section
variable {s : ByteArray} (hs : s.size ≤ 1048576) (T N : List S27) (hT : Sm T) (hN : Sm N)
include hs hT hN
theorem line_ev (i : Nat) : ∀ (n c : Nat) (u r : List Int), u.length ≤ n → (bytesOf s).drop (i + c) = u ++ r → (10 : Int) ∉ u → (r = [] ∨ r.headD 0 = 10) → i + c + u.length ≤ s.size → Pos s (i + c) →
    Ev (fun k => golex_scanner_note.l0 k ((i + c + u.length : Nat) : Int) ((i + c : Nat) : Int) s (i : Int) T N) (tres s i T N (lc c (u ++ r)))
  | n, c, u, r, hn, he, hu, hr, hz, hp => by
    refine Ev.step (fun _ => golex_scanner_note.l0.eq_2 ..) ?_
    by_cases h0 : u = []
    · subst h0
      have e : lc c ([] ++ r) = .note c false := by
        rw [List.nil_append, lc]
        rcases hr with rfl | hr
        · rfl
        · by_cases h1 : r = []
          · rw [dif_pos h1]
          · rw [dif_neg h1, if_pos hr]
      rw [e]
      refine ev_neg (by simp) (ev_call (ev_eq (noted_f s (i : Int) hN i (i + c) (by omega) (by simpa using hz))) (ev_ret ?_))
      simp [tres]
    · have hb : Byt (u ++ r) := by rw [← he]; exact byt_drop (byt_bytesOf s) _
      have lu := List.length_pos_iff.2 h0
      have hn' : n ≠ 0 := by omega
      obtain ⟨m, rfl⟩ := Nat.exists_eq_succ_of_ne_zero hn'
      have hne : u ++ r ≠ [] := by simp [h0]
      have hh : ¬ (u ++ r).headD 0 = 10 := by
        cases u with
        | nil => exact absurd rfl h0
        | cons x y =>
          intro h
          apply hu
          simp at h
          rw [h]
          simp
      refine ev_pos (by omega) (ev_call (rune_at hs hp) ?_)
      rw [he, lc, dif_neg hne, if_neg hh]
      by_cases c1 : sr (u ++ r) < 0
      · rw [if_pos c1]
        exact ev_pos c1 (ev_eq (bad_f _ _ _ hT _))
      · rw [if_neg c1]
        have si := sign_in hb rfl h0 (by rcases hr with h | h; exact .inl h; exact .inr (by omega)) (by omega : 0 ≤ sr (u ++ r))
        have sp := sn_pos hb hne
        have w : wrap64 (((i + c : Nat) : Int) + (sn (u ++ r) : Int)) = ((i + (c + sn (u ++ r)) : Nat) : Int) := by rw [w64 (by omega) (by omega)]; omega
        refine ev_neg c1 ?_
        dsimp only
        rw [w, dp_sn hb hne]
        have ed : (u ++ r).drop (sn (u ++ r)) = u.drop (sn (u ++ r)) ++ r := by rw [List.drop_append_of_le_length si]
        have lz : i + (c + sn (u ++ r)) + (u.drop (sn (u ++ r))).length = i + c + u.length := by rw [List.length_drop]; omega
        have ih := line_ev i m (c + sn (u ++ r)) (u.drop (sn (u ++ r))) r (by rw [List.length_drop]; omega) (by rw [← ed, ← he, List.drop_drop, Nat.add_assoc]) (fun h => hu (List.mem_of_mem_drop h)) hr (by rw [lz]; exact hz) (.inl (by omega))
        rw [lz] at ih
        rw [ed]
        exact ih
theorem note_ev (i : Nat) (hp : Pos s i) (h2 : i + 2 ≤ s.size) (hh : ([47, 47] : List Int).isPrefixOf ((bytesOf s).drop i) = true ∨ (([47, 47] : List Int).isPrefixOf ((bytesOf s).drop i) = false ∧ ([47, 42] : List Int).isPrefixOf ((bytesOf s).drop i) = true)) :
    Ev (fun k => golex_scanner_note.f k s (i : Int) T N) (tres s i T N (if ([47, 47] : List Int).isPrefixOf ((bytesOf s).drop i) = true then lc 0 ((bytesOf s).drop i) else bc ((bytesOf s).drop i))) := by
  have hl := bytesOf_length s
  unfold golex_scanner_note.f
  have w : wrap64 ((i : Int) + 1) = ((i + 1 : Nat) : Int) := by rw [w64 (by omega) (by omega)]; omega
  have w2 : wrap64 ((i : Int) + 2) = ((i + 2 : Nat) : Int) := by rw [w64 (by omega) (by omega)]; omega
  rw [w]
  refine ev_pos ⟨by omega, by omega, by omega, by omega⟩ ?_
  rw [Int.toNat_natCast]
  have d0 : (bytesOf s).drop i = bt s (i : Int) :: bt s ((i + 1 : Nat) : Int) :: (bytesOf s).drop (i + 1 + 1) := by rw [drop_bt (by omega), drop_bt (by omega)]
  by_cases c1 : ([47, 47] : List Int).isPrefixOf ((bytesOf s).drop i) = true
  · rw [if_pos c1]
    have b1 : bt s ((i + 1 : Nat) : Int) = 47 := by
      rw [d0] at c1
      simp only [List.isPrefixOf, Bool.and_eq_true, beq_iff_eq, and_true] at c1
      exact c1.2.symm
    refine ev_pos b1 ?_
    unfold noteLine
    rcases feed_split (s.extract i s.size) with ⟨g1, g2⟩ | ⟨u, r, g1, g2, g3⟩
    · rw [g1]
      rw [bytes_drop] at g2
      refine ev_neg (by decide) ?_
      have := line_ev hs T N hT hN i _ 0 ((bytesOf s).drop i) [] (Nat.le_refl _) (by simp) g2 (.inl rfl) (by rw [List.length_drop]; omega) hp
      rw [List.append_nil, List.length_drop, hl, Nat.add_zero, Nat.add_sub_cancel' (by omega)] at this
      exact this
    · rw [g3]
      rw [bytes_drop] at g1
      have lg := congrArg List.length g1
      rw [List.length_drop, List.length_append, List.length_cons] at lg
      refine ev_pos (by omega) ?_
      have := line_ev hs T N hT hN i _ 0 u (10 :: r) (Nat.le_refl _) (by simpa using g1) g2 (.inr rfl) (by omega) hp
      rw [← g1, Nat.add_zero] at this
      have w3 : wrap64 ((i : Int) + (u.length : Int)) = ((i + u.length : Nat) : Int) := by rw [w64 (by omega) (by omega)]; omega
      rw [w3]
      exact this
  · rw [if_neg c1]
    have c2 : ([47, 42] : List Int).isPrefixOf ((bytesOf s).drop i) = true := by
      rcases hh with h | h
      · exact absurd h c1
      · exact h.2
    have b1 : ¬ bt s ((i + 1 : Nat) : Int) = 47 := by
      rw [d0] at c2
      simp only [List.isPrefixOf, Bool.and_eq_true, beq_iff_eq, and_true] at c2
      rw [← c2.2]
      decide
    refine ev_neg b1 ?_
    unfold noteBlock
    rw [w2]
    have hu := un_ev hs (i : Int) T N (bad_f s (i : Int) N hT) (⟨#[42, 47]⟩ : ByteArray) (⟨#[]⟩ : ByteArray) i (by decide) false 2 h2 (.inl (by omega))
    refine ev_call hu ?_
    rw [bc, List.drop_drop]
    show Ev _ (tres s i T N (match un (bytesOf (⟨#[42, 47]⟩ : ByteArray)) false (bytesOf (⟨#[]⟩ : ByteArray)) 2 ((bytesOf s).drop (i + 2)) with
      | .ok j => .note j (decide ((10 : Int) ∈ ((bytesOf s).drop i).take j))
      | .frm => .bad 0
      | .bad o => .bad o))
    cases e : un (bytesOf (⟨#[42, 47]⟩ : ByteArray)) false (bytesOf (⟨#[]⟩ : ByteArray)) 2 ((bytesOf s).drop (i + 2)) with
    | frm => exact ev_neg Bool.false_ne_true (ev_ret rfl)
    | bad o => exact ev_neg Bool.false_ne_true (ev_ret rfl)
    | ok j =>
      obtain ⟨g1, g2, g3⟩ := un_le _ _ _ 2 _ _ (byt_drop (byt_bytesOf s) (i + 2)) (Nat.le_refl _) e
      rw [List.length_drop, hl] at g2
      have ej : bytesOf (s.extract i (i + j)) = ((bytesOf s).drop i).take j := by rw [bytesOf_extract, ← List.take_drop]
      refine ev_pos rfl (ev_call (ev_eq (noted_f s (i : Int) hN i (i + j) (by omega) (by omega))) ?_)
      have fi := feed_in (s.extract i (i + j))
      rw [ej] at fi
      show Ev (fun k => if 0 ≤ Lib.indexByte (s.extract (i : Int).toNat ((i + j : Nat) : Int).toNat).data.toList 10 then _ else _) _
      rw [Int.toNat_natCast, Int.toNat_natCast]
      by_cases c3 : (10 : Int) ∈ ((bytesOf s).drop i).take j
      · refine ev_pos (fi.2 c3) (ev_call (ev_eq (feed_f s (i : Int) _ hT _)) (ev_ret ?_))
        simp only [tres, decide_eq_true c3, if_true]; rfl
      · refine ev_neg (fun h => c3 (fi.1 h)) (ev_ret ?_)
        simp only [tres, decide_eq_false c3, if_false, Bool.false_eq_true]; rfl
end
end Go.Proofs.YtfolmcfcmonkhaaDoor.Fr
namespace Go.Proofs.YtfolmcfcmonkhaaDoor.Fr
open Go Go.RowKit Go.Proofs.YtfolmcfcmonkhaaDoor.PAll Go.Proofs.YtfolmcfcmonkhaaDoorW.PrintWords Go.Proofs.YtfolmcfcmonkhaaDoorW.PrintLast Go.Proofs.YtfolmcfcmonkhaaDoorPw Go.Proofs.YtfolmcfcmonkhaaDoor
set_option linter.unusedVariables false
set_option linter.unusedSimpArgs false
theorem nm_le {l : List Int} (hb : Byt l) : nm l ≤ l.length := by
  rw [nm]
  by_cases h : l ≠ [] ∧ (isL (sr l) || isD (sr l)) = true
  · rw [dif_pos h]
    have sp := sn_pos hb h.1
    have := nm_le (byt_dp hb (sn l))
    rw [dp_sn hb h.1, List.length_drop] at this
    rw [dp_sn hb h.1]
    omega
  · rw [dif_neg h]
    exact Nat.zero_le _
termination_by l.length
decreasing_by exact dp_len h.1 _
theorem nm_pos {l : List Int} (hb : Byt l) (h0 : l ≠ []) (h : (isL (sr l) || isD (sr l)) = true) : 1 ≤ nm l := by
  rw [nm, dif_pos ⟨h0, h⟩]
  have := sn_pos hb h0
  omega
theorem nl_le (hex : Bool) : ∀ (prev : Int) (l : List Int), nl hex prev l ≤ l.length
  | _, [] => Nat.le_refl _
  | prev, c :: t => by
    rw [nl]
    have := nl_le hex c t
    split
    · rw [List.length_cons]; omega
    · exact Nat.zero_le _
def opL (L : List (List Int)) (l : List Int) : Nat := match L.find? (fun x => x.isPrefixOf l) with | some x => x.length | none => 0
theorem opL_cons (x : List Int) (L : List (List Int)) (l : List Int) : opL (x :: L) l = if x.isPrefixOf l = true then x.length else opL L l := by
  unfold opL
  rw [List.find?_cons]
  cases x.isPrefixOf l <;> rfl
theorem opL_le (l : List Int) : ∀ L, opL L l ≤ l.length
  | [] => Nat.zero_le _
  | x :: L => by
    unfold opL
    rw [List.find?_cons]
    cases e : x.isPrefixOf l with
    | true => rw [pre_iff, decide_eq_true_eq] at e; exact e.1
    | false => exact opL_le l L
theorem lc_le : ∀ (n c : Nat) (l : List Int), Byt l → l.length ≤ n → ∀ m f, lc c l = .note m f → c ≤ m ∧ m ≤ c + l.length ∧ f = false ∧ (l.drop (m - c) = [] ∨ (l.drop (m - c)).headD 0 = 10) ∧ (10 : Int) ∉ l.take (m - c)
  | n, c, l, hb, hn, m, f, h => by
    rw [lc] at h
    by_cases h0 : l = []
    · rw [dif_pos h0] at h
      obtain ⟨rfl, rfl⟩ := Th.note.inj h
      subst h0
      exact ⟨Nat.le_refl _, Nat.le_refl _, rfl, .inl (by simp), by simp⟩
    rw [dif_neg h0] at h
    by_cases h1 : l.headD 0 = 10
    · rw [if_pos h1] at h
      obtain ⟨rfl, rfl⟩ := Th.note.inj h
      exact ⟨Nat.le_refl _, by omega, rfl, .inr (by simpa using h1), by simp⟩
    rw [if_neg h1] at h
    by_cases h2 : sr l < 0
    · rw [if_pos h2] at h; cases h
    rw [if_neg h2, dp_sn hb h0] at h
    have lp := List.length_pos_iff.2 h0
    have sp := sn_pos hb h0
    have hn' : n ≠ 0 := by omega
    obtain ⟨k, rfl⟩ := Nat.exists_eq_succ_of_ne_zero hn'
    obtain ⟨g1, g2, g3, g4, g5⟩ := lc_le k (c + sn l) (l.drop (sn l)) (byt_drop hb _) (by rw [List.length_drop]; omega) m f h
    rw [List.length_drop] at g2
    rw [List.drop_drop, show sn l + (m - (c + sn l)) = m - c by omega] at g4
    refine ⟨by omega, by omega, g3, g4, ?_⟩
    have e : l.take (m - c) = l.take (sn l) ++ (l.drop (sn l)).take (m - (c + sn l)) := by
      rw [show m - c = sn l + (m - (c + sn l)) by omega, List.take_add]
    rw [e, List.mem_append]
    rintro (h3 | h3)
    · rcases sg_cases hb h0 with ⟨e1, _⟩ | ⟨r, t, e1, e2, e3, e4, e5⟩
      · omega
      · rw [e5, e3, List.take_left] at h3
        by_cases c1 : r < 128
        · rw [utf_ascii c1] at h3 e3
          rw [e3] at h1
          simp at h3 h1
          exact h1 h3.symm
        · have := utf_high e1 (by omega) _ h3
          omega
    · exact g5 h3
/-- How many bytes a step takes in, and no more than there are. -/
def size : Th → Nat
  | .bad _ => 0
  | .blank => 1
  | .feed => 1
  | .note n _ => n
  | .tok _ n => n
section
variable {s : ByteArray} (hs : s.size ≤ 1048576) (T N : List S27) (hT : Sm T) (hN : Sm N)
include hs hT
theorem signs_ev (i : Nat) (hi : i ≤ s.size) (L : List ByteArray) (ls : L.length < 1000) : ∀ (suf pre : List ByteArray), L = pre ++ suf → (∀ x ∈ suf, x.size ≠ 0) →
    Ev (fun k => golex_scanner_step.l0 k (i : Int) L (L.length : Int) (pre.length : Int) s (i : Int) T N) (tres s i T N (if opL (suf.map bytesOf) ((bytesOf s).drop i) = 0 then .bad 0 else .tok 5 (opL (suf.map bytesOf) ((bytesOf s).drop i))))
  | [], pre, e, hz => by
    refine Ev.step (fun _ => golex_scanner_step.l0.eq_2 ..) ?_
    rw [List.append_nil] at e
    rw [e]
    refine ev_neg (by omega) (ev_call (ev_eq (bad_f _ _ _ hT _)) (ev_ret ?_))
    rfl
  | x :: suf, pre, e, hz => by
    refine Ev.step (fun _ => golex_scanner_step.l0.eq_2 ..) ?_
    have ln := congrArg List.length e
    rw [List.length_append, List.length_cons] at ln
    have hx := hz x (by simp)
    have lx := bytesOf_length x
    have rx : rdOf ByteArray.empty L (pre.length : Int) = x := by
      unfold rdOf
      rw [Int.toNat_natCast, e, List.getD_eq_getElem?_getD, List.getElem?_append_right (Nat.le_refl _), Nat.sub_self]
      rfl
    have w : wrap64 ((pre.length : Int) + 1) = (((pre ++ [x]).length : Nat) : Int) := by rw [w64 (by omega) (by omega)]; simp
    refine ev_pos (by omega) (ev_pos (by omega) (ev_pos (by omega) (ev_pos (by omega) (ev_pos (by omega) (ev_call (ev_eq (prefix_f _ _)) ?_)))))
    rw [rx, Int.toNat_natCast, bytes_drop, List.map_cons, opL_cons]
    cases c : (bytesOf x).isPrefixOf ((bytesOf s).drop i) with
    | true =>
      have c' : x.size ≤ s.size - i := by
        have c' := c
        rw [pre_iff, decide_eq_true_eq, List.length_drop, bytesOf_length s, lx] at c'
        exact c'.1
      have c2 : i + x.size ≤ s.size := by clear c e ln hz rx w; omega
      have w3 : wrap64 ((i : Int) + (x.size : Int)) = ((i + x.size : Nat) : Int) := by rw [w64 (by omega) (by omega)]; omega
      refine ev_pos rfl ?_
      rw [w3]
      refine ev_call (ev_eq (put_f s (i : Int) N hT 5 i (i + x.size) (Nat.le_add_right _ _) c2)) (ev_ret ?_)
      rw [if_pos rfl, lx, if_neg hx]
      rfl
    | false =>
      refine ev_neg Bool.false_ne_true ?_
      have ih := signs_ev i hi L ls suf (pre ++ [x]) (by rw [e, List.append_assoc]; rfl) (fun y hy => hz y (by simp [hy]))
      rw [w, if_neg Bool.false_ne_true]
      exact ih
include hN
theorem step_ev (i : Nat) (hp : Pos s i) (hi : i < s.size) : Ev (fun k => golex_scanner_step.f k s (i : Int) T N) (tres s i T N (next ((bytesOf s).drop i))) := by
  have hl := bytesOf_length s
  have hb := byt_drop (byt_bytesOf s) i
  have dc := drop_bt hi
  have h0 : (bytesOf s).drop i ≠ [] := by rw [dc]; simp
  have sp := sn_pos hb h0
  rw [List.length_drop, hl] at sp
  have low : ∀ r : Int, 0 < r ∧ r < 128 → sr ((bytesOf s).drop i) = r → bt s (i : Int) = r ∧ sn ((bytesOf s).drop i) = 1 := by
    intro r hr e
    obtain ⟨t, g1, g2, g3⟩ := sr_low hb (by omega) (by omega)
    rw [dc] at g1
    exact ⟨by rw [← e, dc]; exact List.head_eq_of_cons_eq g1, g2⟩
  unfold golex_scanner_step.f
  refine ev_call (rune_at hs hp) (ev_neg (by omega) ?_)
  rw [next]
  by_cases c1 : sr ((bytesOf s).drop i) < 0
  · rw [if_pos c1]
    exact ev_pos c1 (ev_call (ev_eq (bad_f _ _ _ hT _)) (ev_ret rfl))
  rw [if_neg c1]
  refine ev_neg c1 ?_
  by_cases c2 : sr ((bytesOf s).drop i) = 10
  · rw [if_pos c2]
    have := (low 10 (by decide) c2).2
    refine ev_pos c2 (ev_call (ev_eq (feed_f _ _ _ hT _)) (ev_ret ?_))
    rw [this]
    show (true, s, wrap64 ((i : Int) + ((1 : Nat) : Int)), feedT T (i : Int), N) = _
    rw [w64 (by omega) (by omega)]
    rfl
  rw [if_neg c2]
  refine ev_neg c2 (ev_call (ev_eq (blank_f _)) ?_)
  by_cases c3 : sr ((bytesOf s).drop i) = 32 ∨ sr ((bytesOf s).drop i) = 9 ∨ sr ((bytesOf s).drop i) = 13
  · rw [if_pos c3]
    have : sn ((bytesOf s).drop i) = 1 := by
      rcases c3 with c | c | c
      · exact (low 32 (by decide) c).2
      · exact (low 9 (by decide) c).2
      · exact (low 13 (by decide) c).2
    refine ev_pos (decide_eq_true c3) (ev_ret ?_)
    rw [this]
    show (true, s, wrap64 ((i : Int) + ((1 : Nat) : Int)), T, N) = _
    rw [w64 (by omega) (by omega)]
    rfl
  rw [if_neg c3]
  refine ev_neg (by simp only [decide_eq_true_eq]; exact c3) (ev_pos (by omega) (ev_pos (by omega) (ev_call (ev_eq (prefix_f _ _)) ?_)))
  rw [Int.toNat_natCast, bytes_drop]
  have p2 : ∀ x y : Int, ([x, y] : List Int).isPrefixOf ((bytesOf s).drop i) = true → i + 2 ≤ s.size := by
    intro x y h
    rw [pre_iff, decide_eq_true_eq, List.length_drop, hl] at h
    have := h.1
    simp at this
    omega
  by_cases c4 : ([47, 47] : List Int).isPrefixOf ((bytesOf s).drop i) = true
  · rw [if_pos c4]
    refine ev_pos c4 (Ev.step (fun _ => golex_scanner_step.j0.eq_2 ..) (ev_pos rfl ?_))
    have := note_ev hs T N hT hN i hp (p2 _ _ c4) (.inl c4)
    rw [if_pos c4] at this
    exact ev_call this (ev_ret rfl)
  rw [if_neg c4]
  refine ev_neg c4 (ev_call (ev_eq (prefix_f _ _)) ?_)
  rw [bytes_drop]
  by_cases c5 : ([47, 42] : List Int).isPrefixOf ((bytesOf s).drop i) = true
  · rw [if_pos c5]
    refine Ev.step (fun _ => golex_scanner_step.j0.eq_2 ..) (ev_pos c5 ?_)
    have := note_ev hs T N hT hN i hp (p2 _ _ c5) (.inr ⟨Bool.eq_false_iff.mpr c4, c5⟩)
    rw [if_neg c4] at this
    exact ev_call this (ev_ret rfl)
  rw [if_neg c5]
  refine Ev.step (fun _ => golex_scanner_step.j0.eq_2 ..) (ev_neg c5 (ev_call (ev_eq (letter_f _)) ?_))
  by_cases c6 : isL (sr ((bytesOf s).drop i)) = true
  · rw [if_pos c6]
    have le := nm_le hb
    rw [List.length_drop, hl] at le
    refine ev_pos c6 (ev_call (run_ev hs (i : Int) T N _ i (Nat.le_refl _) (by omega) hp) ?_)
    dsimp only
    exact ev_call (ev_eq (put_f s (i : Int) N hT 1 i (i + nm ((bytesOf s).drop i)) (by omega) (by omega))) (ev_ret rfl)
  rw [if_neg c6]
  refine ev_neg c6 (ev_call (ev_eq (digit_f _)) ?_)
  have le := nl_le (isHex ((bytesOf s).drop i)) 0 ((bytesOf s).drop i)
  rw [List.length_drop, hl] at le
  have num : ∀ b : Bool, b = true → Ev (fun k => golex_scanner_step.j1 k (sr ((bytesOf s).drop i)) (i : Int) b s (i : Int) T N) (tres s i T N (.tok 2 (nl (isHex ((bytesOf s).drop i)) 0 ((bytesOf s).drop i)))) := by
    rintro b rfl
    refine Ev.step (fun _ => golex_scanner_step.j1.eq_2 ..) (ev_pos rfl (ev_call (number_ev hs (i : Int) T N i (by omega)) ?_))
    dsimp only
    exact ev_call (ev_eq (put_f s (i : Int) N hT 2 i (i + nl (isHex ((bytesOf s).drop i)) 0 ((bytesOf s).drop i)) (by omega) (by omega))) (ev_ret rfl)
  have last : ∀ b : Bool, b = false → Ev (fun k => golex_scanner_step.j1 k (sr ((bytesOf s).drop i)) (i : Int) b s (i : Int) T N) (tres s i T N (if sr ((bytesOf s).drop i) = 39 then qt 3 39 ((bytesOf s).drop i) else
      if sr ((bytesOf s).drop i) = 34 then qt 4 34 ((bytesOf s).drop i) else
      if sr ((bytesOf s).drop i) = 96 then qt 4 96 ((bytesOf s).drop i) else
      if sr ((bytesOf s).drop i) = 59 then .tok 6 1 else
      if op ((bytesOf s).drop i) = 0 then .bad 0 else .tok 5 (op ((bytesOf s).drop i)))) := by
    rintro b rfl
    refine Ev.step (fun _ => golex_scanner_step.j1.eq_2 ..) (ev_neg Bool.false_ne_true ?_)
    by_cases d1 : sr ((bytesOf s).drop i) = 39
    · rw [if_pos d1]
      have := text_ev hs T N hT 3 i hi
      rw [(low 39 (by decide) d1).1] at this
      exact ev_pos d1 (ev_call this (ev_ret rfl))
    rw [if_neg d1]
    refine ev_neg d1 ?_
    have txt : ∀ (b : Bool) (q : Int), b = true → bt s (i : Int) = q → Ev (fun k => golex_scanner_step.j2 k (sr ((bytesOf s).drop i)) (i : Int) b s (i : Int) T N) (tres s i T N (qt 4 q ((bytesOf s).drop i))) := by
      rintro b q rfl rfl
      exact Ev.step (fun _ => golex_scanner_step.j2.eq_2 ..) (ev_pos rfl (ev_call (text_ev hs T N hT 4 i hi) (ev_ret rfl)))
    by_cases d2 : sr ((bytesOf s).drop i) = 34
    · rw [if_pos d2]
      exact ev_pos d2 (txt _ _ rfl (low 34 (by decide) d2).1)
    rw [if_neg d2]
    refine ev_neg d2 ?_
    by_cases d3 : sr ((bytesOf s).drop i) = 96
    · rw [if_pos d3]
      exact txt _ _ (by rw [d3]; rfl) (low 96 (by decide) d3).1
    rw [if_neg d3]
    refine Ev.step (fun _ => golex_scanner_step.j2.eq_2 ..) (ev_neg (by simpa using d3) ?_)
    by_cases d4 : sr ((bytesOf s).drop i) = 59
    · rw [if_pos d4]
      have w : wrap64 ((i : Int) + 1) = ((i + 1 : Nat) : Int) := by rw [w64 (by omega) (by omega)]; omega
      refine ev_pos d4 ?_
      rw [w]
      exact ev_call (ev_eq (put_f _ _ _ hT _ i (i + 1) (by omega) (by omega))) (ev_ret rfl)
    rw [if_neg d4]
    refine ev_neg d4 ?_
    exact signs_ev hs T N hT i (by omega) signsL (by decide) signsL [] rfl (by decide)
  by_cases c7 : isD (sr ((bytesOf s).drop i)) = true
  · rw [if_pos (.inl c7)]
    exact ev_pos c7 (num _ rfl)
  refine ev_neg c7 ?_
  by_cases c8 : sr ((bytesOf s).drop i) = 46
  · refine ev_pos c8 ?_
    have w : wrap64 ((i : Int) + 1) = ((i + 1 : Nat) : Int) := by rw [w64 (by omega) (by omega)]; omega
    rw [w]
    by_cases c9 : i + 1 < s.size
    · have w2 : wrap32 (bt s ((i + 1 : Nat) : Int)) = ((bytesOf s).drop i).getD 1 0 := by
        have := bt_range s ((i + 1 : Nat) : Int)
        rw [dc, drop_bt c9]
        show wrap32 _ = bt s ((i + 1 : Nat) : Int)
        unfold wrap32
        omega
      refine ev_pos (by omega) (ev_pos (by omega) (ev_call (ev_eq (digit_f _)) ?_))
      rw [w2]
      by_cases c10 : isD (((bytesOf s).drop i).getD 1 0) = true
      · rw [if_pos (.inr ⟨c8, by rw [List.length_drop, hl]; omega, c10⟩)]
        exact num _ c10
      · rw [if_neg (by rintro (h | h); exact c7 h; exact c10 h.2.2)]
        exact last _ (Bool.eq_false_iff.mpr c10)
    · rw [if_neg (by rintro (h | h); exact c7 h; have := h.2.1; rw [List.length_drop, hl] at this; omega)]
      exact ev_neg (by omega) (last _ rfl)
  · rw [if_neg (by rintro (h | h); exact c7 h; exact c8 h.1)]
    exact ev_neg c8 (last _ rfl)
end
end Go.Proofs.YtfolmcfcmonkhaaDoor.Fr
namespace Go.Proofs.YtfolmcfcmonkhaaDoor.Fr
open Go Go.RowKit Go.Proofs.YtfolmcfcmonkhaaDoor.PAll Go.Proofs.YtfolmcfcmonkhaaDoorW.PrintWords Go.Proofs.YtfolmcfcmonkhaaDoorW.PrintLast Go.Proofs.YtfolmcfcmonkhaaDoorPw Go.Proofs.YtfolmcfcmonkhaaDoor
set_option linter.unusedVariables false
set_option linter.unusedSimpArgs false
theorem qt_inv {kd q : Int} {l : List Int} (hb : Byt l) {k : Int} {n : Nat} (h : qt kd q l = .tok k n) : k = kd ∧ 2 ≤ n ∧ n ≤ 1 + (l.drop 1).length ∧ un [q] (decide (q ≠ 96)) (if q = 96 then [] else [10]) 1 (l.drop 1) = .ok n ∧ ¬ (kd = 3 ∧ n = 2) := by
  rw [qt, dp_eq (Nat.le_refl 1)] at h
  cases e : un [q] (decide (q ≠ 96)) (if q = 96 then [] else [10]) 1 (l.drop 1) with
  | frm => rw [e] at h; cases h
  | bad o => rw [e] at h; cases h
  | ok j =>
    rw [e] at h
    dsimp only at h
    by_cases c : kd = 3 ∧ j = 2
    · rw [if_pos c] at h; cases h
    rw [if_neg c] at h
    obtain ⟨rfl, rfl⟩ := Th.tok.inj h
    obtain ⟨g1, g2, g3⟩ := un_le _ _ _ 1 _ _ (byt_drop hb 1) (Nat.le_refl _) e
    exact ⟨rfl, by simpa using g1, g2, rfl, c⟩
theorem qt_not_note {kd q : Int} {l : List Int} {n : Nat} {f : Bool} : qt kd q l ≠ .note n f := by
  intro h
  rw [qt] at h
  split at h
  · split at h <;> cases h
  · cases h
  · cases h
theorem qt_not {kd q : Int} {l : List Int} : qt kd q l ≠ .feed ∧ qt kd q l ≠ .blank := by
  constructor <;>
  · intro h
    rw [qt] at h
    split at h
    · split at h <;> cases h
    · cases h
    · cases h
theorem bc_inv {l : List Int} (hb : Byt l) (hl : 2 ≤ l.length) {n : Nat} {f : Bool} (h : bc l = .note n f) : 4 ≤ n ∧ n ≤ l.length ∧ f = decide ((10 : Int) ∈ l.take n) ∧ un [42, 47] false [] 2 (l.drop 2) = .ok n := by
  rw [bc] at h
  cases e : un [42, 47] false [] 2 (l.drop 2) with
  | frm => rw [e] at h; cases h
  | bad o => rw [e] at h; cases h
  | ok j =>
    rw [e] at h
    obtain ⟨rfl, rfl⟩ := Th.note.inj h
    obtain ⟨g1, g2, g3⟩ := un_le _ _ _ 2 _ _ (byt_drop hb 2) (Nat.le_refl _) e
    rw [List.length_drop] at g2
    have g1 : 2 + 2 ≤ j := g1
    exact ⟨g1, by omega, rfl, rfl⟩
theorem pre2 {x y : Int} {l : List Int} (h : ([x, y] : List Int).isPrefixOf l = true) : ∃ t, l = x :: y :: t := by
  rw [List.isPrefixOf_iff_prefix] at h
  obtain ⟨t, rfl⟩ := h
  exact ⟨t, rfl⟩
/-- A token: of which kind it is, and how long. -/
theorem tok_inv {l : List Int} {k : Int} {n : Nat} (hb : Byt l) (h : next l = .tok k n) :
    0 ≤ sr l ∧ sr l ≠ 10 ∧ ¬ (sr l = 32 ∨ sr l = 9 ∨ sr l = 13) ∧ ([47, 47] : List Int).isPrefixOf l = false ∧ ([47, 42] : List Int).isPrefixOf l = false ∧
    ((k = 1 ∧ isL (sr l) = true ∧ n = nm l) ∨
     (isL (sr l) = false ∧ k = 2 ∧ (isD (sr l) = true ∨ (sr l = 46 ∧ 1 < l.length ∧ isD (l.getD 1 0) = true)) ∧ n = nl (isHex l) 0 l) ∨
     (isL (sr l) = false ∧ ¬ (isD (sr l) = true ∨ (sr l = 46 ∧ 1 < l.length ∧ isD (l.getD 1 0) = true)) ∧
      ((sr l = 39 ∧ qt 3 39 l = .tok k n) ∨ (sr l = 34 ∧ qt 4 34 l = .tok k n) ∨ (sr l = 96 ∧ qt 4 96 l = .tok k n) ∨ (sr l = 59 ∧ k = 6 ∧ n = 1) ∨
       (sr l ≠ 39 ∧ sr l ≠ 34 ∧ sr l ≠ 96 ∧ sr l ≠ 59 ∧ k = 5 ∧ n = op l ∧ op l ≠ 0)))) := by
  rw [next] at h
  by_cases c1 : sr l < 0
  · rw [if_pos c1] at h; cases h
  rw [if_neg c1] at h
  by_cases c2 : sr l = 10
  · rw [if_pos c2] at h; cases h
  rw [if_neg c2] at h
  by_cases c3 : sr l = 32 ∨ sr l = 9 ∨ sr l = 13
  · rw [if_pos c3] at h; cases h
  rw [if_neg c3] at h
  by_cases c4 : ([47, 47] : List Int).isPrefixOf l = true
  · rw [if_pos c4] at h
    exfalso
    have key : ∀ (m c : Nat) (l : List Int), l.length ≤ m → lc c l ≠ .tok k n := by
      intro m
      induction m with
      | zero => intro c l hl h; rw [lc, dif_pos (List.length_eq_zero_iff.1 (by omega))] at h; cases h
      | succ m ih =>
        intro c l hl h
        rw [lc] at h
        by_cases h0 : l = []
        · rw [dif_pos h0] at h; cases h
        rw [dif_neg h0] at h
        split at h
        · cases h
        split at h
        · cases h
        have := dp_len h0 (sn l)
        exact ih _ _ (by omega) h
    exact key _ _ _ (Nat.le_refl _) h
  rw [if_neg c4] at h
  by_cases c5 : ([47, 42] : List Int).isPrefixOf l = true
  · rw [if_pos c5, bc] at h
    exfalso
    split at h <;> cases h
  rw [if_neg c5] at h
  refine ⟨by omega, c2, c3, Bool.eq_false_iff.mpr c4, Bool.eq_false_iff.mpr c5, ?_⟩
  by_cases c6 : isL (sr l) = true
  · rw [if_pos c6] at h
    obtain ⟨rfl, rfl⟩ := Th.tok.inj h
    exact .inl ⟨rfl, c6, rfl⟩
  rw [if_neg c6] at h
  by_cases c7 : isD (sr l) = true ∨ (sr l = 46 ∧ 1 < l.length ∧ isD (l.getD 1 0) = true)
  · rw [if_pos c7] at h
    obtain ⟨rfl, rfl⟩ := Th.tok.inj h
    exact .inr (.inl ⟨Bool.eq_false_iff.mpr c6, rfl, c7, rfl⟩)
  rw [if_neg c7] at h
  refine .inr (.inr ⟨Bool.eq_false_iff.mpr c6, c7, ?_⟩)
  by_cases d1 : sr l = 39
  · rw [if_pos d1] at h; exact .inl ⟨d1, h⟩
  rw [if_neg d1] at h
  by_cases d2 : sr l = 34
  · rw [if_pos d2] at h; exact .inr (.inl ⟨d2, h⟩)
  rw [if_neg d2] at h
  by_cases d3 : sr l = 96
  · rw [if_pos d3] at h; exact .inr (.inr (.inl ⟨d3, h⟩))
  rw [if_neg d3] at h
  by_cases d4 : sr l = 59
  · rw [if_pos d4] at h
    obtain ⟨rfl, rfl⟩ := Th.tok.inj h
    exact .inr (.inr (.inr (.inl ⟨d4, rfl, rfl⟩)))
  rw [if_neg d4] at h
  by_cases d5 : op l = 0
  · rw [if_pos d5] at h; cases h
  rw [if_neg d5] at h
  obtain ⟨rfl, rfl⟩ := Th.tok.inj h
  exact .inr (.inr (.inr (.inr ⟨d1, d2, d3, d4, rfl, rfl, d5⟩)))
theorem note_inv {l : List Int} {n : Nat} {f : Bool} (h : next l = .note n f) : (([47, 47] : List Int).isPrefixOf l = true ∧ lc 0 l = .note n f) ∨ (([47, 47] : List Int).isPrefixOf l = false ∧ ([47, 42] : List Int).isPrefixOf l = true ∧ bc l = .note n f) := by
  rw [next] at h
  by_cases c1 : sr l < 0
  · rw [if_pos c1] at h; cases h
  rw [if_neg c1] at h
  by_cases c2 : sr l = 10
  · rw [if_pos c2] at h; cases h
  rw [if_neg c2] at h
  by_cases c3 : sr l = 32 ∨ sr l = 9 ∨ sr l = 13
  · rw [if_pos c3] at h; cases h
  rw [if_neg c3] at h

  by_cases c4 : ([47, 47] : List Int).isPrefixOf l = true
  · rw [if_pos c4] at h
    exact .inl ⟨c4, h⟩
  rw [if_neg c4] at h
  by_cases c5 : ([47, 42] : List Int).isPrefixOf l = true
  · rw [if_pos c5] at h
    exact .inr ⟨Bool.eq_false_iff.mpr c4, c5, h⟩
  rw [if_neg c5] at h
  exfalso
  repeat' (split at h)
  all_goals (first | (cases h; done) | exact qt_not_note h)
theorem nl_pos {l : List Int} (hb : Byt l) (hex : Bool) (h : isD (sr l) = true ∨ (sr l = 46 ∧ 1 < l.length ∧ isD (l.getD 1 0) = true)) : 1 ≤ nl hex 0 l := by
  have r : 46 ≤ sr l ∧ sr l < 128 ∧ (sr l = 46 ∨ isD (sr l) = true) := by
    rcases h with h | h
    · refine ⟨?_, ?_, .inr h⟩ <;> (unfold isD at h; simp at h; omega)
    · refine ⟨?_, ?_, .inl h.1⟩ <;> (rw [h.1]; decide)
  obtain ⟨t, g1, g2, g3⟩ := sr_low hb (by omega) r.2.1
  rw [g1, nl, okN_pw]
  have : ok2 (sr l) = true := by
    unfold ok2
    rcases r.2.2 with h | h
    · simp [h]
    · simp [h, r.2.1]
  rw [this, Bool.or_true, if_pos rfl]
  omega
theorem sr_ne {l : List Int} (h : 0 ≤ sr l) : l ≠ [] := by
  rintro rfl
  rw [sg_nil.1] at h
  omega
theorem tok_size {l : List Int} {k : Int} {n : Nat} (hb : Byt l) (h : next l = .tok k n) : 1 ≤ n ∧ n ≤ l.length := by
  obtain ⟨h1, _, _, _, _, h6⟩ := tok_inv hb h
  have h0 := sr_ne h1
  have lp := List.length_pos_iff.2 h0
  have qs : ∀ kd q, qt kd q l = .tok k n → 1 ≤ n ∧ n ≤ l.length := by
    intro kd q e
    have := qt_inv hb e
    have l1 := this.2.2.1
    rw [List.length_drop] at l1
    omega
  rcases h6 with ⟨rfl, c, rfl⟩ | ⟨_, rfl, c, rfl⟩ | ⟨_, _, ⟨_, e⟩ | ⟨_, e⟩ | ⟨_, e⟩ | ⟨_, _, rfl⟩ | ⟨_, _, _, _, _, rfl, e⟩⟩
  · exact ⟨nm_pos hb h0 (by rw [c]; rfl), nm_le hb⟩
  · exact ⟨nl_pos hb _ c, nl_le _ _ _⟩
  · exact qs _ _ e
  · exact qs _ _ e
  · exact qs _ _ e
  · omega
  · exact ⟨by omega, opL_le _ _⟩
theorem note_size {l : List Int} {n : Nat} {f : Bool} (hb : Byt l) (h : next l = .note n f) : 2 ≤ n ∧ n ≤ l.length := by
  rcases note_inv h with ⟨h1, h2⟩ | ⟨_, h1, h2⟩
  · obtain ⟨t, rfl⟩ := pre2 h1
    obtain ⟨g1, g2, g3, g4, g5⟩ := lc_le _ 0 _ hb (Nat.le_refl _) _ _ h2
    refine ⟨?_, by omega⟩
    rw [Nat.sub_zero] at g4
    match n, g4 with
    | 0, g => simp at g
    | 1, g => simp at g
    | n + 2, _ => omega
  · obtain ⟨t, rfl⟩ := pre2 h1
    have := bc_inv hb (by simp) h2
    exact ⟨by omega, this.2.1⟩
theorem endsP_app (T : List S27) (t : S27) : endsP (T ++ [t]) = endsT t := by
  unfold endsP rd_T27
  rw [List.length_append, List.length_singleton, if_neg (by omega), show (((T.length + 1 : Nat) : Int) - 1).toNat = T.length by omega, List.getD_eq_getElem?_getD, List.getElem?_append_right (Nat.le_refl _), Nat.sub_self]
  rfl
theorem feedT_semi (T : List S27) (i : Nat) (prev : Bool) (h : endsP T = prev) : feedT T (i : Int) = T ++ semi prev i ∧ endsP (feedT T (i : Int)) = false := by
  unfold feedT semi
  rw [h]
  cases prev with
  | true => exact ⟨rfl, by rw [if_pos rfl, endsP_app]; rfl⟩
  | false => exact ⟨by simp, by rw [if_neg Bool.false_ne_true]; exact h⟩
theorem feedT_len (T : List S27) (x : Int) : (feedT T x).length ≤ T.length + 1 := by
  unfold feedT
  split
  · simp
  · omega
theorem semi_len (b : Bool) (a : Nat) : (semi b a).length ≤ 1 := by
  unfold semi
  split <;> simp
theorem part_eq {s : ByteArray} (i n : Nat) : s.extract i (i + n) = strOfNums (((bytesOf s).drop i).take n) := by
  apply bytes_inj
  rw [bytes_str (byt_take (byt_drop (byt_bytesOf s) i) n), bytesOf_extract, ← List.take_drop]
theorem scan_round {s : ByteArray} (hs : s.size ≤ 1048576) : ∀ (n i : Nat) (T N : List S27) (prev : Bool), s.size - i ≤ n → i ≤ s.size → Pos s i → T.length ≤ i → N.length ≤ i → endsP T = prev →
    ∃ p : Int, Ev (fun k => golex_scan.l0 k s (i : Int) T N) (s, p, T ++ (lx ((bytesOf s).drop i) i prev).1, N ++ (lx ((bytesOf s).drop i) i prev).2)
  | n, i, T, N, prev, hn, hi, hp, hT, hN, he => by
    have hl := bytesOf_length s
    have sT : Sm T := by unfold Sm; omega
    have sN : Sm N := by unfold Sm; omega
    have hb := byt_drop (byt_bytesOf s) i
    by_cases h0 : s.size ≤ i
    · rw [drop_nil h0, lx, dif_pos rfl]
      refine ⟨(i : Int), Ev.step (fun _ => golex_scan.l0.eq_2 ..) ?_⟩
      have ie : i = s.size := by omega
      have st : Ev (fun k => golex_scanner_step.f k s (i : Int) T N) (false, s, (i : Int), feedT T (i : Int) ++ [⟨0, (⟨#[]⟩ : ByteArray), (i : Int)⟩], N) := by
        unfold golex_scanner_step.f
        refine ev_call (rune_at hs hp) (ev_pos (by rw [drop_nil h0, sg_nil.2]; rfl) (ev_call (ev_eq (feed_f _ _ _ sT _)) ?_))
        have sF : Sm (feedT T (i : Int)) := by have := feedT_len T (i : Int); unfold Sm; omega
        dsimp only
        refine ev_call (ev_eq (put_f s (i : Int) N sF 0 i i (Nat.le_refl _) hi)) (ev_ret ?_)
        have : s.extract i i = (⟨#[]⟩ : ByteArray) := bytes_inj (by rw [bytesOf_extract, List.drop_eq_nil_of_le (by rw [List.length_take]; omega)]; rfl)
        rw [this]
      refine ev_call st (ev_neg Bool.false_ne_true (ev_ret ?_))
      rw [(feedT_semi T i prev he).1, List.append_nil, List.append_assoc]
    · have dn : (bytesOf s).drop i ≠ [] := by rw [drop_bt (by omega)]; simp
      have st := step_ev hs T N sT sN i hp (by omega)
      have hn' : n ≠ 0 := by omega
      obtain ⟨m, rfl⟩ := Nat.exists_eq_succ_of_ne_zero hn'
      have d1 : ∀ k, 1 ≤ k → dp ((bytesOf s).drop i) k = (bytesOf s).drop (i + k) := fun k hk => by rw [dp_eq hk, List.drop_drop]
      have l1 : ((bytesOf s).drop i).length = s.size - i := by rw [List.length_drop, hl]
      rw [lx, dif_neg dn]
      cases e : next ((bytesOf s).drop i) with
      | bad o =>
        rw [e] at st
        refine ⟨(i : Int), Ev.step (fun _ => golex_scan.l0.eq_2 ..) (ev_call st (ev_neg Bool.false_ne_true (ev_ret ?_)))⟩
        dsimp only
        rw [List.append_nil]
        rfl
      | blank =>
        rw [e] at st
        obtain ⟨p, ih⟩ := scan_round hs m (i + 1) T N prev (by omega) (by omega) (.inl (by omega)) (by omega) (by omega) he
        refine ⟨p, Ev.step (fun _ => golex_scan.l0.eq_2 ..) (ev_call st (ev_pos rfl ?_))⟩
        dsimp only
        rw [d1 1 (Nat.le_refl _)]
        exact ih
      | feed =>
        rw [e] at st
        obtain ⟨f1, f2⟩ := feedT_semi T i prev he
        have fl := feedT_len T (i : Int)
        obtain ⟨p, ih⟩ := scan_round hs m (i + 1) (feedT T (i : Int)) N false (by omega) (by omega) (.inl (by omega)) (by omega) (by omega) f2
        refine ⟨p, Ev.step (fun _ => golex_scan.l0.eq_2 ..) (ev_call st (ev_pos rfl ?_))⟩
        dsimp only
        rw [d1 1 (Nat.le_refl _)]
        show Ev (fun k => golex_scan.l0 k s ((i + 1 : Nat) : Int) (feedT T (i : Int)) N) _
        rw [f1] at ih ⊢
        rw [List.append_assoc] at ih
        exact ih
      | note k f =>
        rw [e] at st
        have sz := note_size hb e
        have pe := part_eq (s := s) i k
        obtain ⟨f1, f2⟩ := feedT_semi T i prev he
        have fl := feedT_len T (i : Int)
        obtain ⟨p, ih⟩ := scan_round hs m (i + k) (if f = true then feedT T (i : Int) else T) (N ++ [⟨0, s.extract i (i + k), (i : Int)⟩]) (prev && !f) (by omega) (by omega) (.inl (by omega)) (by split <;> omega) (by rw [List.length_append, List.length_singleton]; omega) (by
          cases f with
          | true => simpa using f2
          | false => simpa using he)
        refine ⟨p, Ev.step (fun _ => golex_scan.l0.eq_2 ..) (ev_call st (ev_pos rfl ?_))⟩
        dsimp only
        rw [d1 k (by omega)]
        have e1 : (if f = true then feedT T (i : Int) else T) = T ++ semi (prev && f) i := by
          cases f with
          | true => rw [if_pos rfl, f1, Bool.and_true]
          | false => rw [if_neg Bool.false_ne_true, Bool.and_false]; simp [semi]
        rw [pe] at ih
        refine Ev.congr (fun q => ?_) (show Ev (fun q => golex_scan.l0 q s ((i + k : Nat) : Int) (if f = true then feedT T (i : Int) else T) (N ++ [⟨0, strOfNums (((bytesOf s).drop i).take k), (i : Int)⟩])) _ from ?_)
        · show golex_scan.l0 q s ((i + k : Nat) : Int) (if f = true then feedT T (i : Int) else T) (N ++ [⟨0, s.extract i (i + k), (i : Int)⟩]) = _
          rw [pe]
        · rw [e1] at ih ⊢
          rw [List.append_assoc, List.append_assoc] at ih
          exact ih
      | tok k z =>
        rw [e] at st
        have sz := tok_size hb e
        have pe := part_eq (s := s) i z
        obtain ⟨p, ih⟩ := scan_round hs m (i + z) (T ++ [⟨k, s.extract i (i + z), (i : Int)⟩]) N (endsT ⟨k, strOfNums (((bytesOf s).drop i).take z), (i : Int)⟩) (by omega) (by omega) (.inl (by omega)) (by rw [List.length_append, List.length_singleton]; omega) (by omega) (by rw [endsP_app, pe])
        refine ⟨p, Ev.step (fun _ => golex_scan.l0.eq_2 ..) (ev_call st (ev_pos rfl ?_))⟩
        dsimp only
        rw [d1 z (by omega)]
        rw [List.append_assoc] at ih
        show Ev (fun q => golex_scan.l0 q s ((i + z : Nat) : Int) (T ++ [⟨k, s.extract i (i + z), (i : Int)⟩]) N) _
        rw [pe] at ih ⊢
        exact ih
theorem skip_prog (s : ByteArray) (hs : s.size ≤ 1048576) : Ev (fun k => utf_Skip.f k s) (skp (bytesOf s) : Int) := by
  unfold utf_Skip.f
  have hl := bytesOf_length s
  refine ev_call (rune_ev s 0 (by omega)) ?_
  unfold skp
  by_cases c : (utf 65279).isPrefixOf (bytesOf s) = true
  · rw [if_pos c]
    rw [List.isPrefixOf_iff_prefix] at c
    obtain ⟨t, ht⟩ := c
    have := answer_at (l := bytesOf s) (i := 0) (r := 65279) (t := t) (by decide) (by rw [List.drop_zero, ht])
    rw [show ((0 : Nat) : Int) = 0 from rfl] at this
    have e2 : answer (bytesOf s) 0 = (65279, 3) := by rw [this]; rfl
    rw [e2]
    exact ev_pos rfl (ev_ret rfl)
  · rw [if_neg c]
    refine ev_neg ?_ (ev_ret rfl)
    intro h
    apply c
    by_cases h0 : (bytesOf s).length ≤ 0
    · rw [answer_out (.inr (by omega))] at h
      exact absurd h (by decide)
    rcases D_cases (byt_bytesOf s) (by omega) with ⟨h1, h2, _⟩ | ⟨t, h1, h2, h3⟩
    · have := answer_bad (l := bytesOf s) (i := 0) (by omega) (by rw [List.drop_zero]; exact h2) (by rw [List.drop_zero]; exact h1)
      rw [show ((0 : Nat) : Int) = 0 from rfl] at this
      rw [this] at h
      exact absurd h (by decide)
    · have := answer_at (l := bytesOf s) (i := 0) (r := (D (bytesOf s)).1) (t := t) h1 (by rw [List.drop_zero]; exact h2)
      rw [show ((0 : Nat) : Int) = 0 from rfl] at this
      rw [this, if_neg (fun e => absurd e.2 (by decide))] at h
      have h : (D (bytesOf s)).1 = 65279 := h
      rw [h] at h2
      rw [List.isPrefixOf_iff_prefix]
      exact ⟨t, h2.symm⟩
theorem skp_le (l : List Int) : skp l ≤ l.length ∧ skp l ≤ 3 := by
  unfold skp
  split
  · next h =>
    rw [pre_iff, decide_eq_true_eq] at h
    exact ⟨h.1, Nat.le_refl _⟩
  · exact ⟨Nat.zero_le _, by decide⟩
/-- What the program's scan answers, of any text that isn't too long. -/
theorem scan_ev (s : ByteArray) (hs : s.size ≤ 1048576) : ∃ p : Int, Ev (fun k => golex_scan.f k s) (s, p, (lexB s).1, (lexB s).2) := by
  have hk := skp_le (bytesOf s)
  rw [bytesOf_length] at hk
  have hp : Pos s (skp (bytesOf s)) := by
    unfold Pos
    omega
  obtain ⟨p, h⟩ := scan_round hs _ (skp (bytesOf s)) [] [] false (Nat.le_refl _) hk.1 hp (Nat.zero_le _) (Nat.zero_le _) rfl
  refine ⟨p, ?_⟩
  unfold golex_scan.f
  exact ev_call (skip_prog s hs) h
end Go.Proofs.YtfolmcfcmonkhaaDoor.Fr
namespace Go.Proofs.YtfolmcfcmonkhaaDoor.PAll
open Go Go.RowKit Go.Proofs.YtfolmcfcmonkhaaDoor.Fr Go.Proofs.YtfolmcfcmonkhaaDoorW.PrintWords Go.Proofs.YtfolmcfcmonkhaaDoorW.PrintLast Go.Proofs.YtfolmcfcmonkhaaDoorPw Go.Proofs.YtfolmcfcmonkhaaDoor
set_option linter.unusedVariables false
set_option linter.unusedSimpArgs false
def golex_Lex.f (a0 : ByteArray) : Option (List (S27)) := if a0.size ≤ 1048576 then some (lexB a0).1 else none
theorem golex_Lex.calls (a0 : ByteArray) (r : List (S27)) (w : World) (hT : Tabs w) (h : golex_Lex.f a0 = some r) : Calls Tryd.prog 11 #[.string a0] w fun e w' => ∃ v0_ : Value, e = .returned v0_ ∧ Kd.R k27 27 w' w.heap.size (fun _ => True) v0_ r ∧ Below w.heap.size w w' := by
  unfold golex_Lex.f at h
  split at h
  · next hs =>
    obtain rfl := Option.some.inj h
    obtain ⟨p, K, hk⟩ := scan_ev a0 hs
    exact golex_Lex.walk K a0 _ _ _ _ w hT (hk K (Nat.le_refl _))
  · cases h
def golex_Notes.f (a0 : ByteArray) : Option (List (S27)) := if a0.size ≤ 1048576 then some (lexB a0).2 else none
theorem golex_Notes.calls (a0 : ByteArray) (r : List (S27)) (w : World) (hT : Tabs w) (h : golex_Notes.f a0 = some r) : Calls Tryd.prog 14 #[.string a0] w fun e w' => ∃ v0_ : Value, e = .returned v0_ ∧ Kd.R k27 27 w' w.heap.size (fun _ => True) v0_ r ∧ Below w.heap.size w w' := by
  unfold golex_Notes.f at h
  split at h
  · next hs =>
    obtain rfl := Option.some.inj h
    obtain ⟨p, K, hk⟩ := scan_ev a0 hs
    exact golex_Notes.walk K a0 _ _ _ _ w hT (hk K (Nat.le_refl _))
  · cases h
end Go.Proofs.YtfolmcfcmonkhaaDoor.PAll

