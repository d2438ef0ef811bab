/- The statements of chapter 10 over numbers and lists. -/
import Derived.Test.YtckdbdbbnlodiaaDoorUtA
namespace Go.Proofs.YtckdbdbbnlodiaaDoor.Fr
open Go Go.RowKit Go.Proofs.YtckdbdbbnlodiaaDoor.PAll Go.Proofs.YtckdbdbbnlodiaaDoorW.PrintWords Go.Proofs.YtckdbdbbnlodiaaDoorW.PrintLast Go.Proofs.YtckdbdbbnlodiaaDoorPw
theorem mx_one {a : Int} : mx a 1 = if a ≤ 1 then 1 else a := by unfold mx; split <;> split <;> omega
/-- What the program answers at a place of a text. -/
def answer (l : List Int) (at_ : Int) : Int × Int :=
  if at_ < 0 ∨ (l.length : Int) ≤ at_ then (-1, 0) else
    if (D (l.drop at_.toNat)).2 = 1 ∧ ((D (l.drop at_.toNat)).1 = 65533 ∨ (D (l.drop at_.toNat)).1 = 0) then (-1, 1) else
      if (D (l.drop at_.toNat)).1 = 65279 ∧ 0 < at_ then (-1, 3) else D (l.drop at_.toNat)
theorem utf_len_mark : (utf 65279).length = 3 := by decide
theorem answer_out {l : List Int} {a : Int} (h : a < 0 ∨ (l.length : Int) ≤ a) : answer l a = (-1, 0) := by unfold answer; rw [if_pos h]
theorem answer_bad {l : List Int} {i : Nat} (h : i < l.length) (h2 : (D (l.drop i)).2 = 1) (h1 : (D (l.drop i)).1 = 65533 ∨ (D (l.drop i)).1 = 0) : answer l (i : Int) = (-1, 1) := by
  unfold answer
  rw [if_neg (by omega), Int.toNat_natCast, if_pos ⟨h2, h1⟩]
theorem answer_at {l : List Int} {i : Nat} {r : Int} {t : List Int} (hr : Sgn r) (h : l.drop i = utf r ++ t) : answer l (i : Int) = if r = 65279 ∧ 0 < (i : Int) then (-1, 3) else (r, ((utf r).length : Int)) := by
  have hD := D_utf r hr t
  have u := utf_len r
  have hlen := congrArg List.length h
  rw [List.length_drop, List.length_append] at hlen
  unfold answer
  rw [if_neg (by omega), Int.toNat_natCast, h, hD, if_neg]
  rintro ⟨h1, h2 | h2⟩
  · have h2 : r = 65533 := h2
    subst h2
    revert h1
    decide
  · have h2 : r = 0 := h2
    subst h2
    exact absurd hr (by decide)
theorem rune_ev (s : ByteArray) (at_ : Int) (_ : s.size < 9223372036854775807) : Ev (fun k => utf_Rune.f k s at_) (answer (bytesOf s) at_) := by
  have hl := bytesOf_length s
  have yes : (at_ < 0 ∨ (s.size : Int) ≤ at_) → Ev (fun k => utf_Rune.j0 k s at_ true) (answer (bytesOf s) at_) := fun h => by
    rw [answer_out (by rw [hl]; exact h)]
    exact Ev.step (fun _ => utf_Rune.j0.eq_2 ..) (ev_pos rfl (Ev.now _))
  by_cases c0 : at_ < 0
  · exact ev_pos c0 (yes (.inl c0))
  by_cases c1 : at_ ≥ (s.size : Int)
  · refine ev_neg c0 ?_
    rw [decide_eq_true c1]
    exact yes (.inr c1)
  refine ev_neg c0 ?_
  rw [decide_eq_false c1]
  obtain ⟨i, rfl⟩ := Int.eq_ofNat_of_zero_le (by omega : 0 ≤ at_)
  have hx : bytesOf (s.extract i s.size) = (bytesOf s).drop i := by rw [bytesOf_extract, ← hl, List.take_length]
  have hn : ((bytesOf s).drop i).length ≠ 0 := by rw [List.length_drop]; omega
  have goal : ∀ R, answer (bytesOf s) (i : Int) = R → Ev (fun _ => if (D ((bytesOf s).drop i)).1 = 65533 then (if (D ((bytesOf s).drop i)).2 ≤ 1 then (some ((-1), mx (D ((bytesOf s).drop i)).2 1)) else (if (D ((bytesOf s).drop i)).1 = 0 then (some ((-1), mx (D ((bytesOf s).drop i)).2 1)) else (if (D ((bytesOf s).drop i)).1 = 65279 then (if (i : Int) > 0 then (some ((-1), mx (D ((bytesOf s).drop i)).2 1)) else (some ((D ((bytesOf s).drop i)).1, (D ((bytesOf s).drop i)).2))) else (some ((D ((bytesOf s).drop i)).1, (D ((bytesOf s).drop i)).2))))) else (if (D ((bytesOf s).drop i)).1 = 0 then (some ((-1), mx (D ((bytesOf s).drop i)).2 1)) else (if (D ((bytesOf s).drop i)).1 = 65279 then (if (i : Int) > 0 then (some ((-1), mx (D ((bytesOf s).drop i)).2 1)) else (some ((D ((bytesOf s).drop i)).1, (D ((bytesOf s).drop i)).2))) else (some ((D ((bytesOf s).drop i)).1, (D ((bytesOf s).drop i)).2))))) R := by
    intro R hR
    rcases D_cases (byt_drop (byt_bytesOf s) i) hn with ⟨h1, h2, _⟩ | ⟨t, h1, h2, h3⟩
    · rw [answer_bad (by omega) h2 h1] at hR
      subst hR
      have e1 : mx (D ((bytesOf s).drop i)).2 1 = 1 := by rw [h2]; decide
      rw [e1]
      rcases h1 with h1 | h1
      · exact ev_pos h1 (ev_pos (by omega) (Ev.now _))
      · exact ev_neg (by omega) (ev_pos h1 (Ev.now _))
    · have u := utf_len (D ((bytesOf s).drop i)).1
      have um := utf_len_mark
      rw [answer_at h1 h2] at hR
      generalize D ((bytesOf s).drop i) = d at h1 h2 h3 u hR ⊢
      obtain ⟨x, y⟩ := d
      dsimp only at h1 h2 h3 u hR ⊢
      obtain ⟨g1, g2, g3⟩ := h1
      have last : Ev (fun _ => if x = 65279 then (if (i : Int) > 0 then (some ((-1), mx y 1)) else (some (x, y))) else (some (x, y))) R := by
        by_cases a : x = 65279
        · by_cases b : (i : Int) > 0
          · have e : mx y 1 = 3 := by rw [h3, a, um]; decide
            rw [e]
            rw [if_pos ⟨a, b⟩] at hR
            subst hR
            exact ev_pos a (ev_pos b (Ev.now _))
          · rw [if_neg (fun h => b h.2), ← h3] at hR
            subst hR
            exact ev_pos a (ev_neg b (Ev.now _))
        · rw [if_neg (fun h => a h.1), ← h3] at hR
          subst hR
          exact ev_neg a (Ev.now _)
      by_cases a : x = 65533
      · have : ¬ y ≤ 1 := by rw [h3, a]; decide
        exact ev_pos a (ev_neg this (ev_neg (by omega) last))
      · exact ev_neg a (ev_neg (by omega) last)
  refine Ev.step (fun _ => utf_Rune.j0.eq_2 ..) (ev_neg (by simp) (ev_pos (by omega) (ev_pos (by omega) ?_)))
  rw [Int.toNat_natCast]
  refine ev_call (ev_eq (decode_eq _ (by rw [← bytesOf_length, hx]; exact hn))) ?_
  rw [hx]
  exact goal _ rfl
theorem sign_eq (r : Int) : seicheref10_Sign.f r = some (decide (Sgn r)) := by
  have h : ∀ b : Bool, (b = true ↔ Sgn r) → (some b : Option Bool) = some (decide (Sgn r)) := fun b hb => by
    by_cases c : Sgn r
    · rw [decide_eq_true c, hb.2 c]
    · rw [decide_eq_false c]
      cases b with
      | false => rfl
      | true => exact absurd (hb.1 rfl) c
  unfold seicheref10_Sign.f
  repeat' split
  all_goals (apply h; unfold Sgn; simp; omega)
theorem bytes_eq (r : Int) (h : Sgn r) : seicheref10_Bytes.f r = some (strOfNums (utf r)) := by
  obtain ⟨h1, h2, h3⟩ := h
  unfold seicheref10_Bytes.f utf
  simp only [Int.tdiv_eq_ediv_of_nonneg (show 0 ≤ r by omega), Int.tmod_eq_emod_of_nonneg (show 0 ≤ r by omega)]
  rw [w64 (x := r / 64) (by omega) (by omega), w64 (x := r / 4096) (by omega) (by omega), w64 (x := r / 262144) (by omega) (by omega), Int.tmod_eq_emod_of_nonneg (show 0 ≤ r / 64 by omega), Int.tmod_eq_emod_of_nonneg (show 0 ≤ r / 4096 by omega),
    w64 (x := 192 + r / 64) (by omega) (by omega), w64 (x := 128 + r % 64) (by omega) (by omega), w64 (x := 224 + r / 4096) (by omega) (by omega), w64 (x := 128 + r / 64 % 64) (by omega) (by omega), w64 (x := 240 + r / 262144) (by omega) (by omega), w64 (x := 128 + r / 4096 % 64) (by omega) (by omega)]
  repeat' split
  all_goals (congr 2; simp; omega)
/-- The number that so many bytes tell. -/
def num (l : List Int) : Nat → Int
  | 1 => l.getD 0 0
  | 2 => 64 * (l.getD 0 0 % 32) + l.getD 1 0 % 64
  | 3 => 64 * (64 * (l.getD 0 0 % 16) + l.getD 1 0 % 64) + l.getD 2 0 % 64
  | _ => 64 * (64 * (64 * (l.getD 0 0 % 8) + l.getD 1 0 % 64) + l.getD 2 0 % 64) + l.getD 3 0 % 64
theorem num_utf (r : Int) (h : Sgn r) (t : List Int) : num (utf r ++ t) (utf r).length = r := by
  obtain ⟨h1, h2, h3⟩ := h
  unfold utf
  repeat' split
  all_goals (simp [num]; try omega)
theorem getD_drop (l : List Int) (i j : Nat) : (l.drop i).getD j 0 = l.getD (i + j) 0 := by rw [List.getD_eq_getElem?_getD, List.getD_eq_getElem?_getD, List.getElem?_drop]
theorem shl_eq (n : Nat) (h : 2 ≤ n) (h4 : n ≤ 4) : shl .i64 1 (IntKind.u64.wrap (wrap64 (7 - (n : Int)))) = 2 ^ (7 - n) := by
  match n, h, h4 with
  | 2, _, _ | 3, _, _ | 4, _, _ => decide +kernel
/-- The reference, when so many bytes are tried: does the text begin with the bytes of the number that they tell? -/
def fits (l : List Int) (n : Nat) : Prop := n ≤ l.length ∧ Sgn (num l n) ∧ l.take n = utf (num l n)
theorem fits_iff {l : List Int} {n : Nat} (h1 : 1 ≤ n) (h4 : n ≤ 4) : fits l n ↔ ∃ r t, Sgn r ∧ l = utf r ++ t ∧ (utf r).length = n := by
  constructor
  · rintro ⟨a, b, c⟩
    refine ⟨num l n, l.drop n, b, by rw [← c, List.take_append_drop], ?_⟩
    rw [← c, List.length_take]
    omega
  · rintro ⟨r, t, hr, rfl, rfl⟩
    have hn := num_utf r hr t
    exact ⟨by simp, by rw [hn]; exact hr, by rw [hn, List.take_left]⟩
theorem rl1 (s : ByteArray) (i n : Nat) (x0 : Int) (hs : s.size ≤ 1048576) (hi : i < s.size) (hn1 : 1 ≤ n) (hn4 : n ≤ 4) (hn : i + n ≤ s.size)
    (hx : x0 = if n = 1 then (bytesOf s).getD i 0 else (bytesOf s).getD i 0 % 2 ^ (7 - n)) (r : Int × Int) (Q : ∀ b, (b = false ↔ fits ((bytesOf s).drop i) n) → Ev (fun k => seicheref10_Rune.j5 k s (i : Int) (n : Int) (num ((bytesOf s).drop i) n) b) r) :
    Ev (fun k => seicheref10_Rune.l1 k s (i : Int) (n : Int) x0 1) r := by
  have hl := bytesOf_length s
  have hb : ∀ j, 0 ≤ (bytesOf s).getD j 0 ∧ (bytesOf s).getD j 0 < 256 := fun j => byt_getD (byt_bytesOf s) j
  have last : Ev (fun k => seicheref10_Rune.l1 k s (i : Int) (n : Int) (num ((bytesOf s).drop i) n) (n : Int)) r := by
    refine Ev.step (fun _ => seicheref10_Rune.l1.eq_2 ..) (ev_neg (by omega) (ev_call (ev_eq (sign_eq _)) ?_))
    by_cases c : Sgn (num ((bytesOf s).drop i) n)
    · refine ev_pos (decide_eq_true c) (ev_call (ev_eq (bytes_eq _ c)) ?_)
      rw [w64 (x := (i : Int) + (n : Int)) (by omega) (by omega)]
      refine ev_pos (by omega) (ev_pos (by omega) (ev_pos (by omega) (Q _ ?_)))
      rw [show ((i : Int) + (n : Int)).toNat = i + n by omega, Int.toNat_natCast]
      have e : bytesOf (s.extract i (i + n)) = ((bytesOf s).drop i).take n := by rw [bytesOf_extract, List.drop_take]; congr 1; omega
      rw [bne_eq_false_iff_eq, ba_iff]
      refine ⟨fun h => ⟨by rw [List.length_drop]; omega, c, by rw [← e, ← h, bytes_str (byt_utf c)]⟩, fun h => bytes_inj (by rw [bytes_str (byt_utf c), e, h.2.2])⟩
    · exact ev_neg (by simpa using c) (Q true ⟨(fun h => by cases h), (fun h => absurd h.2.1 c)⟩)
  have step : ∀ (j : Nat) (x : Int), 1 ≤ j → j < n → 0 ≤ x → x < 70000000 → Ev (fun k => seicheref10_Rune.l1 k s (i : Int) (n : Int) (64 * x + (bytesOf s).getD (i + j) 0 % 64) (((j + 1 : Nat)) : Int)) r → Ev (fun k => seicheref10_Rune.l1 k s (i : Int) (n : Int) x (j : Int)) r := by
    intro j x h1 h2 h3 h4 h
    have := hb (i + j)
    refine Ev.step (fun _ => seicheref10_Rune.l1.eq_2 ..) (ev_pos (by omega) ?_)
    rw [w64 (x := (i : Int) + (j : Int)) (by omega) (by omega), show bt s ((i : Int) + (j : Int)) = (bytesOf s).getD (i + j) 0 by rw [bytesOf_getD]; rfl]
    refine ev_pos (by omega) (ev_pos (by omega) ?_)
    rw [w64 (x := (bytesOf s).getD (i + j) 0) (by omega) (by omega), Int.tmod_eq_emod_of_nonneg (by omega), w64 (x := 64 * x) (by omega) (by omega), w64 (x := 64 * x + (bytesOf s).getD (i + j) 0 % 64) (by omega) (by omega), w64 (x := (j : Int) + 1) (by omega) (by omega)]
    exact h
  have b0 := hb i
  have b1 := hb (i + 1)
  have b2 := hb (i + 2)
  have b3 := hb (i + 3)
  subst hx
  match n, hn1, hn4 with
  | 1, _, _ =>
    have : num ((bytesOf s).drop i) 1 = (bytesOf s).getD i 0 := by unfold num; rw [getD_drop]; rfl
    rw [this] at last
    rw [if_pos rfl]
    exact last
  | 2, _, _ =>
    have e : num ((bytesOf s).drop i) 2 = 64 * ((bytesOf s).getD i 0 % 32) + (bytesOf s).getD (i + 1) 0 % 64 := by unfold num; rw [getD_drop, getD_drop]; rfl
    rw [e] at last
    rw [if_neg (by omega), show (2 : Int) ^ (7 - 2) = 32 from rfl]
    exact step 1 _ (by omega) (by omega) (by omega) (by omega) last
  | 3, _, _ =>
    have e : num ((bytesOf s).drop i) 3 = 64 * (64 * ((bytesOf s).getD i 0 % 16) + (bytesOf s).getD (i + 1) 0 % 64) + (bytesOf s).getD (i + 2) 0 % 64 := by unfold num; rw [getD_drop, getD_drop, getD_drop]; rfl
    rw [e] at last
    rw [if_neg (by omega), show (2 : Int) ^ (7 - 3) = 16 from rfl]
    exact step 1 _ (by omega) (by omega) (by omega) (by omega) (step 2 _ (by omega) (by omega) (by omega) (by omega) last)
  | 4, _, _ =>
    have e : num ((bytesOf s).drop i) 4 = 64 * (64 * (64 * ((bytesOf s).getD i 0 % 8) + (bytesOf s).getD (i + 1) 0 % 64) + (bytesOf s).getD (i + 2) 0 % 64) + (bytesOf s).getD (i + 3) 0 % 64 := by unfold num; rw [getD_drop, getD_drop, getD_drop, getD_drop]; rfl
    rw [e] at last
    rw [if_neg (by omega), show (2 : Int) ^ (7 - 4) = 8 from rfl]
    exact step 1 _ (by omega) (by omega) (by omega) (by omega) (step 2 _ (by omega) (by omega) (by omega) (by omega) (step 3 _ (by omega) (by omega) (by omega) (by omega) last))
theorem rl0 (s : ByteArray) (i : Nat) (hs : s.size ≤ 1048576) (hi : i < s.size) : ∀ (d n : Nat), n + d = 5 → 1 ≤ n → (∀ m, 1 ≤ m → m < n → ¬ fits ((bytesOf s).drop i) m) →
    Ev (fun k => seicheref10_Rune.l0 k s (i : Int) (n : Int)) (answer (bytesOf s) (i : Int))
  | d, n, hd, hn1, hno => by
    have hl := bytesOf_length s
    have hlen : ((bytesOf s).drop i).length = s.size - i := by rw [List.length_drop, hl]
    have bad : (∀ m, 1 ≤ m → m ≤ 4 → ¬ fits ((bytesOf s).drop i) m) → answer (bytesOf s) (i : Int) = (-1, 1) := by
      intro h
      rcases D_cases (byt_drop (byt_bytesOf s) i) (by omega) with ⟨h1, h2, _⟩ | ⟨t, h1, h2, h3⟩
      · exact answer_bad (by omega) h2 h1
      · have u := utf_len (D ((bytesOf s).drop i)).1
        exact absurd ((fits_iff u.1 u.2).2 ⟨_, t, h1, h2, rfl⟩) (h _ u.1 u.2)
    by_cases c : (n : Int) ≤ 4
    case neg =>
      rw [bad (fun m h1 h4 => hno m h1 (by omega))]
      exact Ev.step (fun _ => seicheref10_Rune.l0.eq_2 ..) (ev_neg c (Ev.step (fun _ => seicheref10_Rune.j2.eq_2 ..) (ev_neg (by simp) (Ev.now _))))
    refine Ev.step (fun _ => seicheref10_Rune.l0.eq_2 ..) (ev_pos c ?_)
    rw [w64 (x := (s.size : Int) - (i : Int)) (by omega) (by omega)]
    by_cases c2 : (n : Int) ≤ (s.size : Int) - (i : Int)
    case neg =>
      rw [decide_eq_false c2, bad (fun m h1 h4 hf => by
        by_cases hm : m < n
        · exact hno m h1 hm hf
        · have := hf.1; omega)]
      exact Ev.step (fun _ => seicheref10_Rune.j2.eq_2 ..) (ev_neg (by simp) (Ev.now _))
    rw [decide_eq_true c2]
    have Q : ∀ b, (b = false ↔ fits ((bytesOf s).drop i) n) → Ev (fun k => seicheref10_Rune.j5 k s (i : Int) (n : Int) (num ((bytesOf s).drop i) n) b) (answer (bytesOf s) (i : Int)) := by
      intro b hb
      cases b with
      | true =>
        have hnf : ¬ fits ((bytesOf s).drop i) n := fun h => by have := hb.2 h; cases this
        match d, hd with
        | 0, hd => exact absurd hd (by omega)
        | d + 1, hd =>
          have := rl0 s i hs hi d (n + 1) (by omega) (by omega) (fun m h1 h2 => by
            by_cases hm : m = n
            · subst hm; exact hnf
            · exact hno m h1 (by omega))
          refine Ev.step (fun _ => seicheref10_Rune.j5.eq_2 ..) (ev_pos rfl ?_)
          rw [w64 (x := (n : Int) + 1) (by omega) (by omega)]
          exact this
      | false =>
        have hf := hb.1 rfl
        obtain ⟨r, t, hr, hd2, hln⟩ := (fits_iff hn1 (by omega)).1 hf
        have hD := D_utf r hr t
        have hnum := num_utf r hr t
        rw [← hd2] at hD hnum
        rw [hln] at hnum hD
        have ha : answer (bytesOf s) (i : Int) = if r = 65279 ∧ 0 < (i : Int) then (-1, 3) else (r, (n : Int)) := by rw [answer_at hr hd2, hln]
        rw [hnum]
        generalize answer (bytesOf s) (i : Int) = R at ha ⊢
        refine Ev.step (fun _ => seicheref10_Rune.j5.eq_2 ..) (ev_neg (by simp) ?_)
        by_cases a : r = 65279
        · by_cases b : (i : Int) > 0
          · rw [if_pos ⟨a, b⟩] at ha; subst ha; exact ev_pos a (ev_pos b (Ev.now _))
          · rw [if_neg (fun h => b h.2)] at ha; subst ha; exact ev_pos a (ev_neg b (Ev.now _))
        · rw [if_neg (fun h => a h.1)] at ha; subst ha; exact ev_neg a (Ev.now _)
    have hbi : bt s (i : Int) = (bytesOf s).getD i 0 := (bytesOf_getD s i).symm
    have hb0 := byt_getD (byt_bytesOf s) i
    refine Ev.step (fun _ => seicheref10_Rune.j2.eq_2 ..) (ev_pos rfl (ev_pos (by omega) (ev_pos (by omega) ?_)))
    rw [hbi, w64 (x := (bytesOf s).getD i 0) (by omega) (by omega)]
    by_cases c3 : (n : Int) > 1
    · refine ev_pos c3 ?_
      rw [shl_eq n (by omega) (by omega)]
      have hp : (0 : Int) < 2 ^ (7 - n) := Int.pow_pos (by omega)
      refine ev_pos (by rw [w64 (by omega) (by omega)]; unfold IntKind.wrap; simp only [IntKind.bits, IntKind.signed]; simp; omega) (ev_neg (by omega) (Ev.step (fun _ => seicheref10_Rune.j3.eq_2 ..) ?_))
      rw [Int.tmod_eq_emod_of_nonneg hb0.1]
      exact rl1 s i n _ hs hi hn1 (by omega) (by omega) (by rw [if_neg (by omega)]) _ Q
    · refine ev_neg c3 (Ev.step (fun _ => seicheref10_Rune.j3.eq_2 ..) ?_)
      exact rl1 s i n _ hs hi hn1 (by omega) (by omega) (by rw [if_pos (by omega)]) _ Q
  termination_by d => d
theorem rrune_ev (s : ByteArray) (at_ : Int) (hs : s.size ≤ 1048576) : Ev (fun k => seicheref10_Rune.f k s at_) (answer (bytesOf s) at_) := by
  have hl := bytesOf_length s
  have yes : (at_ < 0 ∨ (s.size : Int) ≤ at_) → Ev (fun k => seicheref10_Rune.j0 k s at_ true) (answer (bytesOf s) at_) := fun h => by
    rw [answer_out (by rw [hl]; exact h)]
    exact Ev.step (fun _ => seicheref10_Rune.j0.eq_2 ..) (ev_pos rfl (Ev.now _))
  by_cases c0 : at_ < 0
  · exact ev_pos c0 (yes (.inl c0))
  refine ev_neg c0 ?_
  by_cases c1 : at_ ≥ (s.size : Int)
  · rw [decide_eq_true c1]
    exact yes (.inr c1)
  rw [decide_eq_false c1]
  obtain ⟨i, rfl⟩ := Int.eq_ofNat_of_zero_le (by omega : 0 ≤ at_)
  exact Ev.step (fun _ => seicheref10_Rune.j0.eq_2 ..) (ev_neg (by simp) (rl0 s i hs (by omega) 4 1 (by omega) (by omega) (fun m h1 h2 => by omega)))
theorem alive_ev : Ev (fun k => seichelaw10_alive.f k) true := Ev.of (fun k => seichelaw10_alive.mono k) (k := 20) (by kernel_rfl)
theorem rune_range (s : ByteArray) (at_ : Int) : -1 ≤ (answer (bytesOf s) at_).1 ∧ (answer (bytesOf s) at_).1 ≤ 1114111 := by
  unfold answer
  split
  · exact ⟨by decide, by decide⟩
  rename_i h
  split
  · exact ⟨by decide, by decide⟩
  rename_i h2
  split
  · exact ⟨by decide, by decide⟩
  rcases D_cases (byt_drop (byt_bytesOf s) at_.toNat) (by rw [List.length_drop]; omega) with ⟨h1, h3, _⟩ | ⟨t, h1, _, _⟩
  · exact absurd ⟨h3, h1⟩ h2
  · exact ⟨by have := h1.1; omega, h1.2.1⟩
theorem skip_ev (s : ByteArray) (hs : s.size ≤ 1048576) : ∃ r, Ev (fun k => utf_Skip.f k s) r ∧ seicheref10_Skip.f s = some r := by
  have hl := bytesOf_length s
  have ans : (answer (bytesOf s) 0).1 = 65279 ↔ ∃ t, bytesOf s = utf 65279 ++ t := by
    constructor
    · intro h
      unfold answer at h
      split at h
      · simp at h
      rename_i h0
      split at h
      · simp at h
      rename_i hbad
      split at h
      · simp at h
      rcases D_cases (byt_drop (byt_bytesOf s) (0 : Int).toNat) (by rw [List.length_drop]; omega) with ⟨h1, h3, _⟩ | ⟨t, h1, h2, h3⟩
      · exact absurd ⟨h3, h1⟩ hbad
      · rw [h] at h2
        exact ⟨t, h2⟩
    · rintro ⟨t, h⟩
      have hD := D_utf 65279 (by decide) t
      unfold answer
      rw [if_neg (by rw [h, List.length_append, utf_len_mark]; omega), show (0 : Int).toNat = 0 from rfl, List.drop_zero, h, hD, if_neg (by rintro ⟨h1, _⟩; revert h1; decide), if_neg (by rintro ⟨_, h2⟩; omega)]
  have two : ∀ t, bytesOf s = utf 65279 ++ t → (answer (bytesOf s) 0).2 = 3 := fun t h => by
    have hD := D_utf 65279 (by decide) t
    unfold answer
    rw [if_neg (by rw [h, List.length_append, utf_len_mark]; omega), show (0 : Int).toNat = 0 from rfl, List.drop_zero, h, hD, if_neg (by rintro ⟨h1, _⟩; revert h1; decide), if_neg (by rintro ⟨_, h2⟩; omega)]
    rfl
  have hm : utf 65279 = [239, 187, 191] := by decide
  have hE : (⟨#[239, 187, 191]⟩ : ByteArray).toList = [239, 187, 191] := by rw [ba_toList]
  have ex : (∃ t, bytesOf s = utf 65279 ++ t) ↔ 3 ≤ s.size ∧ (s.extract 0 3).toList = ([239, 187, 191] : List UInt8) := by
    have e3 : bytesOf (s.extract 0 3) = (bytesOf s).take 3 := by rw [bytesOf_extract, List.drop_zero]
    rw [← hE, ba_iff]
    constructor
    · rintro ⟨t, h⟩
      refine ⟨by rw [← hl, h, List.length_append, utf_len_mark]; omega, bytes_inj ?_⟩
      rw [e3, h, hm]
      rfl
    · rintro ⟨h1, h2⟩
      refine ⟨(bytesOf s).drop 3, ?_⟩
      have := congrArg bytesOf h2
      rw [e3] at this
      rw [hm, show ([239, 187, 191] : List Int) = (bytesOf s).take 3 by rw [this]; rfl, List.take_append_drop]
  have hr := rune_ev s 0 (by omega)
  unfold seicheref10_Skip.f
  by_cases c : ∃ t, bytesOf s = utf 65279 ++ t
  · obtain ⟨h3, h4⟩ := ex.1 c
    obtain ⟨t, ht⟩ := c
    refine ⟨3, ev_call hr (ev_pos (ans.2 ⟨t, ht⟩) (ev_ret (two t ht))), ?_⟩
    rw [if_pos (by omega), if_pos (by omega), if_pos (by omega), if_pos h4]
  · refine ⟨0, ev_call hr (ev_neg (fun h => c (ans.1 h)) (Ev.now _)), ?_⟩
    by_cases h3 : 3 ≤ s.size
    · rw [if_pos (by omega), if_pos (by omega), if_pos (by omega), if_neg (fun h => c (ex.2 ⟨h3, h⟩))]
    · rw [if_neg (by omega)]
theorem UtfReads : seichelaw10_UtfReads.Pure := by
  intro a0 a1 _ _
  refine Ev.rounds (g := fun k => seichelaw10_UtfReads.f k a0 a1) (ev_call alive_ev (ev_pos rfl ?_))
  by_cases c : (a0.size : Int) > 4096
  · exact ev_pos c (Ev.now _)
  obtain ⟨r, h1, h2⟩ := skip_ev a0 (by omega)
  have hr := rune_range a0 a1
  refine ev_neg c (ev_call (rune_ev a0 a1 (by omega)) (ev_call (rrune_ev a0 a1 (by omega)) (ev_pos ?_ (ev_pos rfl (ev_call h1 (ev_call (ev_eq h2) (ev_ret (by simp))))))))
  exact w64 (by omega) (by omega)
theorem utf_size (r : Int) : (strOfNums (utf r)).size = (utf r).length := strOfNums_size _
/-- A sign that stands at a place is read there, but for a mark that is not at the beginning. -/
theorem answer_sign {l : List Int} {i : Nat} {r : Int} {t : List Int} (hr : Sgn r) (h : l.drop i = utf r ++ t) (hm : ¬ (r = 65279 ∧ 0 < i)) : answer l (i : Int) = (r, ((utf r).length : Int)) := by
  rw [answer_at hr h, if_neg (fun h => hm ⟨h.1, by omega⟩)]
theorem UtfSigns : seichelaw10_UtfSigns.Pure := by
  intro a0 a1 _ _
  refine Ev.rounds (g := fun k => seichelaw10_UtfSigns.f k a0 a1) (ev_call alive_ev (ev_pos rfl (ev_call (ev_eq (sign_eq a0)) ?_)))
  have done : Ev (fun k => seichelaw10_UtfSigns.j0 k a0 a1 true) true := Ev.step (fun _ => seichelaw10_UtfSigns.j0.eq_2 ..) (ev_pos rfl (Ev.now _))
  by_cases c : Sgn a0
  case neg => exact ev_neg (by simpa using c) done
  refine ev_pos (decide_eq_true c) ?_
  by_cases c1 : (a1.size : Int) > 1024
  · rw [decide_eq_true c1]; exact done
  rw [decide_eq_false c1]
  have u := utf_len a0
  have hz := utf_size a0
  have e1 := rune_ev (strOfNums (utf a0) ++ a1) 0 (by rw [ByteArray.size_append]; omega)
  rw [bytesOf_append, bytes_str (byt_utf c), show (0 : Int) = ((0 : Nat) : Int) from rfl, answer_sign (l := utf a0 ++ bytesOf a1) (i := 0) (t := bytesOf a1) c (List.drop_zero) (by omega)] at e1
  have hbx : bytesOf ((strOfNums (utf a0)).extract 0 ((utf a0).length - 1)) = (utf a0).take ((utf a0).length - 1) := by rw [bytesOf_extract, List.drop_zero, bytes_str (byt_utf c)]
  have e2 := rune_ev ((strOfNums (utf a0)).extract 0 ((utf a0).length - 1)) 0 (by rw [← bytesOf_length, hbx, List.length_take]; omega)
  rw [hbx] at e2
  have ha : answer ((utf a0).take ((utf a0).length - 1)) 0 = (-1, if (utf a0).length = 1 then 0 else 1) := by
    unfold answer
    rw [List.length_take, show min ((utf a0).length - 1) (utf a0).length = (utf a0).length - 1 by omega]
    by_cases h1 : (utf a0).length = 1
    · rw [if_pos (by omega), if_pos h1]
    · rw [if_neg (by omega), if_neg h1, show (0 : Int).toNat = 0 from rfl, List.drop_zero]
      have hne : ((utf a0).take ((utf a0).length - 1)).length ≠ 0 := by rw [List.length_take]; omega
      rcases D_cases (byt_take (byt_utf c) _) hne with ⟨h2, h3, _⟩ | ⟨t, h2, h3, h4⟩
      · rw [if_pos ⟨h3, h2⟩]
      · exfalso
        have e : utf a0 ++ [] = utf (D ((utf a0).take ((utf a0).length - 1))).1 ++ (t ++ (utf a0).drop ((utf a0).length - 1)) := by
          rw [← List.append_assoc, ← h3, List.append_nil, List.take_append_drop]
        have d1 := D_utf a0 c []
        rw [e, D_utf _ h2] at d1
        have := congrArg List.length h3
        rw [List.length_append, List.length_take] at this
        have := (Prod.mk.inj d1).2
        omega
  rw [ha] at e2
  refine Ev.step (fun _ => seichelaw10_UtfSigns.j0.eq_2 ..) (ev_neg (by simp) (ev_call (ev_eq (bytes_eq a0 c)) (ev_pos (by omega) (ev_call e1 ?_))))
  rw [w64 (x := ((strOfNums (utf a0)).size : Int) - 1) (by omega) (by omega), show (((strOfNums (utf a0)).size : Int) - 1).toNat = (utf a0).length - 1 by omega]
  refine ev_pos (by omega) (ev_pos (by omega) (ev_call e2 (ev_pos ?_ (ev_pos (by show ((utf a0).length : Int) = _; omega) (ev_pos rfl (ev_ret ?_))))))
  · show wrap64 a0 = a0
    obtain ⟨c1, c2, _⟩ := c
    exact w64 (by omega) (by omega)
  · rw [hz]
    unfold mn
    by_cases h1 : (utf a0).length = 1
    · rw [if_pos h1, h1]; decide
    · rw [if_neg h1]
      simp
      first | omega | (split <;> omega)
theorem answer_step (l : List Int) (hb : Byt l) (i : Nat) (h : i < l.length) : ∃ n : Nat, (answer l (i : Int)).2 = n ∧ 1 ≤ n ∧ i + n ≤ l.length := by
  unfold answer
  rw [if_neg (by omega), Int.toNat_natCast]
  rcases D_cases (byt_drop hb i) (by rw [List.length_drop]; omega) with ⟨h1, h2, _⟩ | ⟨t, h1, h2, h3⟩
  · rw [if_pos ⟨h2, h1⟩]
    exact ⟨1, rfl, by omega, by omega⟩
  · have u := utf_len (D (l.drop i)).1
    have hlen := congrArg List.length h2
    rw [List.length_drop, List.length_append] at hlen
    split
    · exact ⟨1, rfl, by omega, by omega⟩
    · split
      · rename_i h4
        refine ⟨3, rfl, by omega, ?_⟩
        rw [h4.1, utf_len_mark] at hlen
        omega
      · exact ⟨_, h3, u.1, by omega⟩
theorem ends_l0 (s : ByteArray) (hs : s.size ≤ 4096) : ∀ (d i j : Nat), i + d = s.size → j ≤ i →
    Ev (fun k => seichelaw10_UtfEnds.l0 k s (i : Int) (j : Int)) true := by
  intro d
  induction d using Nat.strongRecOn with
  | _ d ih =>
    intro i j hd hj
    have hl := bytesOf_length s
    refine Ev.step (fun _ => seichelaw10_UtfEnds.l0.eq_2 ..) (ev_pos (by omega) (ev_call (rune_ev s (i : Int) (by omega)) ?_))
    by_cases c : i < s.size
    · obtain ⟨n, h1, h2, h3⟩ := answer_step (bytesOf s) (byt_bytesOf s) i (by omega)
      rw [h1]
      refine ev_neg (by omega) ?_
      rw [w64 (x := (i : Int) + (n : Int)) (by omega) (by omega), w64 (x := (j : Int) + 1) (by omega) (by omega)]
      exact ih (d - n) (by omega) (i + n) (j + 1) (by omega) (by omega)
    · have : answer (bytesOf s) (i : Int) = (-1, 0) := by unfold answer; rw [if_pos (by rw [hl]; omega)]
      rw [this]
      exact ev_pos rfl (ev_ret (by simp; omega))
theorem UtfEnds : seichelaw10_UtfEnds.Pure := by
  intro a0 _
  refine Ev.rounds (g := fun k => seichelaw10_UtfEnds.f k a0) (ev_call alive_ev (ev_pos rfl ?_))
  by_cases c : (a0.size : Int) > 4096
  · exact ev_pos c (Ev.now _)
  exact ev_neg c (ends_l0 a0 (by omega) a0.size 0 0 (by omega) (by omega))
theorem rd_get (l : List Int) (i : Nat) (h : i < l.length) : l.drop i = rd l (i : Int) :: l.drop (i + 1) := by
  rw [List.drop_eq_getElem_cons h]
  congr 1
  simp [rd, List.getD_eq_getElem?_getD, List.getElem?_eq_getElem h]
def cat (l : List Int) : List Int := l.flatMap utf
theorem cat_len (l : List Int) : (cat l).length ≤ 4 * l.length := by
  induction l with
  | nil => simp [cat]
  | cons a l ih =>
    have := utf_len a
    rw [cat, List.flatMap_cons, List.length_append, List.length_cons]
    rw [cat] at ih
    omega
theorem joins_l1 (l : List Int) (hl : l.length ≤ 200) (hg : ∀ r ∈ l, Sgn r) (hm : ∀ i, 0 < i → i < l.length → rd l (i : Int) ≠ 65279) : ∀ (d i : Nat), i + d = l.length →
    Ev (fun k => seichelaw10_UtfJoins.l1 k (strOfNums (cat l)) ((cat (l.take i)).length : Int) l (l.length : Int) (i : Int)) true
  | 0, i, hd => by
    refine Ev.step (fun _ => seichelaw10_UtfJoins.l1.eq_2 ..) (ev_neg (by omega) (ev_ret ?_))
    rw [List.take_of_length_le (by omega), strOfNums_size]
    simp
  | d + 1, i, hd => by
    have hdr := rd_get l i (by omega)
    have hmem : rd l (i : Int) ∈ l := List.mem_of_mem_drop (i := i) (by rw [hdr]; simp)
    have hs := hg _ hmem
    have hbc : Byt (cat l) := fun x hx => by
      obtain ⟨r, hr, hx⟩ := List.mem_flatMap.1 hx
      exact byt_utf (hg r hr) x hx
    have hcat : (cat l).drop (cat (l.take i)).length = utf (rd l (i : Int)) ++ cat (l.drop (i + 1)) := by
      have e0 : cat l = cat (l.take i) ++ cat (l.drop i) := by
        unfold cat
        rw [← List.flatMap_append, List.take_append_drop]
      rw [e0, List.drop_left, hdr]
      unfold cat
      rw [List.flatMap_cons]
    have htk : cat (l.take (i + 1)) = cat (l.take i) ++ utf (rd l (i : Int)) := by
      have : l.take (i + 1) = l.take i ++ [rd l (i : Int)] := by
        rw [List.take_succ_eq_append_getElem (by omega)]
        congr 2
        simp [rd, List.getD_eq_getElem?_getD, List.getElem?_eq_getElem (show i < l.length by omega)]
      rw [this]
      unfold cat
      rw [List.flatMap_append, List.flatMap_singleton]
    have hlc := cat_len l
    have hlt := cat_len (l.take i)
    rw [List.length_take] at hlt
    have u := utf_len (rd l (i : Int))
    have e := rune_ev (strOfNums (cat l)) ((cat (l.take i)).length : Int) (by rw [strOfNums_size]; omega)
    rw [bytes_str hbc, answer_sign hs hcat (fun h => by
      by_cases hi : i = 0
      · subst hi
        have := h.2
        simp [cat] at this
      · exact hm i (by omega) (by omega) h.1)] at e
    refine Ev.step (fun _ => seichelaw10_UtfJoins.l1.eq_2 ..) (ev_pos (by omega) (ev_pos (by omega) (ev_pos (by omega) (ev_call e (ev_pos ?_ (ev_neg (by show ¬ ((utf (rd l (i : Int))).length : Int) = 0; omega) ?_))))))
    · obtain ⟨s1, s2, _⟩ := hs
      exact w64 (by show _ ≤ rd l (i : Int); omega) (by show rd l (i : Int) < _; omega)
    · have ih := joins_l1 l hl hg hm d (i + 1) (by omega)
      rw [htk, List.length_append] at ih
      show Ev (fun k => seichelaw10_UtfJoins.l1 k (strOfNums (cat l)) (wrap64 (((cat (l.take i)).length : Int) + ((utf (rd l (i : Int))).length : Int))) l (l.length : Int) (wrap64 ((i : Int) + 1))) true
      rw [w64 (x := ((cat (l.take i)).length : Int) + ((utf (rd l (i : Int))).length : Int)) (by omega) (by omega), w64 (x := (i : Int) + 1) (by omega) (by omega), ← Int.natCast_add]
      exact ih
theorem joins_l0 (l : List Int) : ∀ (d i : Nat), i + d = l.length → l.length < 9223372036854775807 → (∀ j, j < i → Sgn (rd l (j : Int)) ∧ (0 < j → rd l (j : Int) ≠ 65279)) → (0 < i → l.length ≤ 200) →
    Ev (fun k => seichelaw10_UtfJoins.l0 k l (strOfNums (cat (l.take i))) l (l.length : Int) (i : Int)) true
  | 0, i, hd, _, hg, h200 => by
    refine Ev.step (fun _ => seichelaw10_UtfJoins.l0.eq_2 ..) (ev_neg (by omega) ?_)
    rw [List.take_of_length_le (by omega)]
    have hl : l.length ≤ 200 := by
      by_cases h : 0 < i
      · exact h200 h
      · omega
    have hsg : ∀ r ∈ l, Sgn r := fun r hr => by
      obtain ⟨j, hj, rfl⟩ := List.getElem_of_mem hr
      have := (hg j (by omega)).1
      simpa [rd, List.getD_eq_getElem?_getD, List.getElem?_eq_getElem hj] using this
    have := joins_l1 l hl hsg (fun j h1 h2 => (hg j (by omega)).2 h1) l.length 0 (by omega)
    simpa [cat] using this
  | d + 1, i, hd, hlm, hg, _ => by
    refine Ev.step (fun _ => seichelaw10_UtfJoins.l0.eq_2 ..) (ev_pos (by omega) (ev_pos (by omega) (ev_pos (by omega) ?_)))
    by_cases c : (l.length : Int) > 200
    · exact ev_pos c (Ev.now _)
    refine ev_neg c (ev_call (ev_eq (sign_eq _)) ?_)
    by_cases c1 : Sgn (rd l (i : Int))
    case neg => exact ev_neg (by simpa using c1) (Ev.now _)
    have htk : cat (l.take (i + 1)) = cat (l.take i) ++ utf (rd l (i : Int)) := by
      have : l.take (i + 1) = l.take i ++ [rd l (i : Int)] := by
        rw [List.take_succ_eq_append_getElem (by omega)]
        congr 2
        simp [rd, List.getD_eq_getElem?_getD, List.getElem?_eq_getElem (show i < l.length by omega)]
      rw [this]
      unfold cat
      rw [List.flatMap_append, List.flatMap_singleton]
    have hlt := cat_len (l.take i)
    rw [List.length_take] at hlt
    have u := utf_len (rd l (i : Int))
    have next : (0 < i → rd l (i : Int) ≠ 65279) → Ev (fun k => (seicheref10_Bytes.f (rd l (i : Int))).bind fun t142 => (if (strOfNums (cat (l.take i))).size + t142.size ≤ 9223372036854775807 then (seichelaw10_UtfJoins.l0 k l (strOfNums (cat (l.take i)) ++ t142) l (l.length : Int) (wrap64 ((i : Int) + 1))) else (none))) true := by
      intro hne
      refine ev_call (ev_eq (bytes_eq _ c1)) (ev_pos (by rw [strOfNums_size, strOfNums_size]; omega) ?_)
      rw [w64 (by omega) (by omega), ← strOfNums_append, ← htk]
      exact joins_l0 l d (i + 1) (by omega) hlm (fun j hj => by
        by_cases e : j = i
        · subst e; exact ⟨c1, hne⟩
        · exact hg j (by omega)) (fun _ => by omega)
    refine ev_pos (decide_eq_true c1) ?_
    by_cases c2 : rd l (i : Int) = 65279
    · refine ev_pos c2 ?_
      by_cases c3 : (i : Int) > 0
      · exact ev_pos c3 (Ev.now _)
      · exact ev_neg c3 (next (fun h => by omega))
    · exact ev_neg c2 (next (fun _ => c2))
theorem UtfJoins : seichelaw10_UtfJoins.Pure := by
  intro l0 _ h8 _
  refine Ev.rounds (g := fun k => seichelaw10_UtfJoins.f k l0) (ev_call alive_ev (ev_pos rfl ?_))
  have := joins_l0 l0 l0.length 0 (by omega) (by omega) (fun j h => by omega) (fun h => by omega)
  simpa [cat, strOfNums] using this
theorem UtfKinds : seichelaw10_UtfKinds.Pure := by
  intro a0 hw
  have h32 : -2147483648 ≤ a0 ∧ a0 ≤ 2147483647 := by
    simp only [Lit.wf, IntKind.min, IntKind.max, IntKind.signed, IntKind.bits, Bool.and_eq_true, decide_eq_true_eq] at hw
    simp at hw
    omega
  refine Ev.rounds (g := fun k => seichelaw10_UtfKinds.f k a0) (ev_call alive_ev (ev_pos rfl ?_))
  rw [w64 (x := a0) (by omega) (by omega)]
  have l1 : ∃ b, utf_Letter.f a0 = some b ∧ seicheref10_Letter.f a0 = some b := by
    unfold utf_Letter.f seicheref10_Letter.f
    refine ⟨decide (a0 ≥ 128 ∨ a0 = 95 ∨ (65 ≤ a0 ∧ a0 ≤ 90) ∨ (97 ≤ a0 ∧ a0 ≤ 122)), ?_, ?_⟩ <;> (repeat' split) <;> (congr 1; simp only [decide_eq_decide, decide_eq_true_eq, eq_comm (a := true), eq_comm (a := false), decide_eq_false_iff_not]; omega)
  have l2 : ∃ b, utf_Digit.f a0 = some b ∧ seicheref10_Digit.f a0 = some b := by
    unfold utf_Digit.f seicheref10_Digit.f
    by_cases h : 48 ≤ a0
    · exact ⟨_, if_pos h, if_pos h⟩
    · exact ⟨_, if_neg h, if_neg h⟩
  obtain ⟨b1, h1, h2⟩ := l1
  obtain ⟨b2, h3, h4⟩ := l2
  have l3 : ∃ b, utf_Blank.f a0 = some b ∧ seicheref10_Blank.f a0 = some b := by
    unfold utf_Blank.f seicheref10_Blank.f
    by_cases x : a0 = 32
    · simp [x]
    · by_cases y : a0 = 9
      · simp [y]
      · simp [x, y]
  obtain ⟨b3, h5, h6⟩ := l3
  exact ev_call (ev_eq h1) (ev_call (ev_eq h2) (ev_pos (by simp) (ev_call (ev_eq h3) (ev_call (ev_eq h4) (ev_pos (by simp) (ev_call (ev_eq h5) (ev_call (ev_eq h6) (ev_ret (by simp)))))))))
end Go.Proofs.YtckdbdbbnlodiaaDoor.Fr
