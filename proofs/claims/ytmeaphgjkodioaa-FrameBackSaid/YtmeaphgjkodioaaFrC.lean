/- The document's own text of chapter 4 (seicheref04), and what is left of records that are cut. -/
import Derived.Test.YtmeaphgjkodioaaFrB
namespace Go.Proofs.Ytmeaphgjkodioaa.Fr
open Go Go.RowKit Go.Proofs.Ytmeaphgjkodioaa.PAll Go.Proofs.YtmeaphgjkodioaaW.PrintWords Go.Proofs.YtmeaphgjkodioaaW.PrintLast Go.Proofs.YtmeaphgjkodioaaPw
def digits : Nat → Int → List Int
  | 0, _ => []
  | d + 1, n => n % 256 :: digits d (n / 256)
theorem rword_l0 : ∀ (d : Nat) (j n : Int) (acc : List Int), 0 ≤ j → j + d = 4 → 0 ≤ n → n < 4294967296 → acc.length + d ≤ 8 →
    Ev (fun k => seicheref04_word.l0 k n (strOfNums acc) j) (strOfNums (acc ++ digits d n))
  | 0, j, n, acc, h0, h1, _, _, _ => Ev.step (fun _ => seicheref04_word.l0.eq_2 ..) (ev_neg (by omega) (ev_ret (by simp [digits])))
  | d + 1, j, n, acc, h0, h1, h2, h3, h4 => Ev.step (fun _ => seicheref04_word.l0.eq_2 ..) (ev_pos (by omega) (by
      refine ev_some (ev_pos (by rw [strOfNums_size, strOfNums_size]; simp; omega) ?_)
      rw [Int.tmod_eq_emod_of_nonneg h2, Int.tdiv_eq_ediv_of_nonneg h2, Int.emod_eq_of_lt (a := n / 256) (by omega) (by omega), w64 (by omega) (by omega), ← strOfNums_append, show n % 256 % 256 = n % 256 by omega]
      have ih := rword_l0 d (j + 1) (n / 256) (acc ++ [n % 256]) (by omega) (by omega) (by omega) (by omega) (by simp; omega)
      simpa [digits] using ih))
theorem rword_ev (n : Int) (h0 : 0 ≤ n) (h1 : n < 4294967296) : Ev (fun k => seicheref04_word.f k n) (strOfNums (word4 n)) := by
  have := rword_l0 4 0 n [] (by omega) (by omega) h0 h1 (by simp)
  have e : [] ++ digits 4 n = word4 n := by
    simp only [digits, word4, List.nil_append]
    rw [show n / 256 / 256 = n / 65536 by omega, show n / 65536 / 256 = n / 16777216 by omega]
  rwa [e] at this
theorem rbytes_ev (s : ByteArray) (hs : s.size ≤ 16777216) : Ev (fun k => seicheref04_Bytes.f k s) (strOfNums (recB (bytesOf s))) := by
  have hc := crc_range (bytesOf s)
  have l4 : ∀ n, (strOfNums (word4 n)).size = 4 := fun n => by rw [strOfNums_size]; rfl
  refine ev_call (rword_ev _ (by omega) (by omega)) (ev_call (rcheck_ev s (by omega)) (ev_call (rword_ev _ hc.1 hc.2) (ev_pos (by rw [l4, l4]; omega) (ev_pos ?_ (ev_ret ?_)))))
  · rw [← strOfNums_append, strOfNums_size]; simp [word4]; omega
  · rw [Int.emod_eq_of_lt (by omega) (by omega), recB, strOfNums_append, strOfNums_append, str_bytes, bytesOf_length]
    apply bytes_inj
    simp only [bytesOf_append, List.append_assoc]
theorem num_bytes (s : ByteArray) : num4 (bytesOf s) = bt s 0 + 256 * bt s 1 + 65536 * bt s 2 + 16777216 * bt s 3 := by
  unfold num4
  rw [bytesOf_getD, bytesOf_getD, bytesOf_getD, bytesOf_getD]
  rfl
theorem wraps (a b c d : Int) (a0 : 0 ≤ a ∧ a ≤ 255) (b0 : 0 ≤ b ∧ b ≤ 255) (c0 : 0 ≤ c ∧ c ≤ 255) (d0 : 0 ≤ d ∧ d ≤ 255) :
    wrap64 (wrap64 (wrap64 (wrap64 a + wrap64 (256 * wrap64 b)) + wrap64 (65536 * wrap64 c)) + wrap64 (16777216 * wrap64 d)) = a + 256 * b + 65536 * c + 16777216 * d := by
  rw [w64 (x := a) (by omega) (by omega), w64 (x := b) (by omega) (by omega), w64 (x := c) (by omega) (by omega), w64 (x := d) (by omega) (by omega), w64 (x := 256 * b) (by omega) (by omega), w64 (x := 65536 * c) (by omega) (by omega), w64 (x := 16777216 * d) (by omega) (by omega),
    w64 (x := a + 256 * b) (by omega) (by omega), w64 (x := a + 256 * b + 65536 * c) (by omega) (by omega), w64 (by omega) (by omega)]
theorem whole_ev (s : ByteArray) (hs : s.size ≤ 16777216) : ∃ q, Ev (fun k => seicheref04_Whole.f k s) (q, (wholeL (bytesOf s)).isSome) ∧ ∀ t, wholeL (bytesOf s) = some t → q = strOfNums t := by
  have hl := bytesOf_length s
  have hr := num4_range (byt_bytesOf s)
  by_cases h8 : s.size < 8
  · have e : wholeL (bytesOf s) = none := by unfold wholeL; rw [if_pos (by omega)]
    rw [e]
    exact ⟨_, ev_pos (by omega) (Ev.now _), fun t h => by cases h⟩
  have go : ∀ q b, Ev (fun k => seicheref04_Whole.j0 k s (num4 (bytesOf s)) (if num4 (bytesOf s) > 65536 then true else decide (num4 (bytesOf s) > (s.size : Int) - 8))) (q, b) → Ev (fun k => seicheref04_Whole.f k s) (q, b) := by
    intro q b h
    refine ev_neg (by omega) (ev_pos (by omega) (ev_pos (by omega) (ev_pos (by omega) (ev_pos (by omega) ?_))))
    rw [wraps _ _ _ _ (bt_range s 0) (bt_range s 1) (bt_range s 2) (bt_range s 3), ← num_bytes, w64 (x := (s.size : Int) - 8) (by omega) (by omega)]
    by_cases c : num4 (bytesOf s) > 65536
    · rw [if_pos c] at h; exact ev_pos c h
    · rw [if_neg c] at h; exact ev_neg c h
  by_cases c : 65536 < num4 (bytesOf s) ∨ (s.size : Int) - 8 < num4 (bytesOf s)
  · have e : wholeL (bytesOf s) = none := by unfold wholeL; rw [if_neg (by omega), if_pos (by omega)]
    rw [e]
    refine ⟨_, go _ _ (Ev.step (fun _ => seicheref04_Whole.j0.eq_2 ..) (ev_pos ?_ (Ev.now _))), fun t h => by cases h⟩
    by_cases c1 : num4 (bytesOf s) > 65536
    · rw [if_pos c1]
    · rw [if_neg c1]; exact decide_eq_true (by omega)
  obtain ⟨n, en⟩ := Int.eq_ofNat_of_zero_le hr.1
  have hx : bytesOf (s.extract 8 (8 + n)) = ((bytesOf s).drop 8).take n := by rw [bytesOf_extract, cut_drop]
  have hc := crc_range (((bytesOf s).drop 8).take n)
  refine ⟨s.extract 8 (8 + n), go _ _ (Ev.step (fun _ => seicheref04_Whole.j0.eq_2 ..) (ev_neg ?_ ?_)), fun t h => ?_⟩
  · rw [if_neg (by omega), decide_eq_false (by omega)]; simp
  · rw [w64 (x := 8 + num4 (bytesOf s)) (by omega) (by omega)]
    refine ev_pos (by omega) (ev_pos (by omega) ?_)
    rw [en, show (8 + (n : Int)).toNat = 8 + n by omega]
    refine ev_call (rcheck_ev _ (by rw [← bytesOf_length, hx, List.length_take, List.length_drop]; omega)) ?_
    rw [hx]
    refine ev_call (rword_ev _ hc.1 hc.2) (ev_pos (by omega) (ev_pos (by omega) (ev_ret ?_)))
    rw [ba_beq]
    congr 1
    have hd : bytesOf (s.extract 4 8) = ((bytesOf s).drop 4).take 4 := bytesOf_extract s 4 8 |>.trans (cut_drop _ 4 4)
    have hw := word4_num4 (byt_drop (byt_bytesOf s) 4) (by rw [List.length_drop]; omega)
    unfold wholeL
    rw [if_neg (by omega), if_neg (by omega), en, Int.toNat_natCast]
    by_cases e : crc (((bytesOf s).drop 8).take n) = num4 ((bytesOf s).drop 4)
    · rw [if_pos e, e, decide_eq_true]
      · rfl
      · apply bytes_inj; rw [hd, bytes_str (byt_word4 _), hw]
    · rw [if_neg e, decide_eq_false]
      · rfl
      · intro e2
        have e3 := congrArg bytesOf e2
        rw [hd, bytes_str (byt_word4 _), ← hw] at e3
        have e4 := congrArg (fun l => num4 (l ++ [])) e3
        simp only [num4_word4 _ _ hc.1 hc.2, num4_word4 _ _ (num4_range (byt_drop (byt_bytesOf s) 4)).1 (num4_range (byt_drop (byt_bytesOf s) 4)).2] at e4
        exact e e4
  · unfold wholeL at h
    rw [if_neg (by omega), if_neg (by omega), en, Int.toNat_natCast] at h
    split at h
    · injection h with h
      rw [← h, ← hx, str_bytes]
    · cases h
theorem extract_to_end (s : ByteArray) (i : Nat) : bytesOf (s.extract i s.size) = (bytesOf s).drop i := by
  rw [bytesOf_extract, ← bytesOf_length, List.take_length]
theorem rsplit_l0 (s : ByteArray) (hl : s.size ≤ 16777216) : ∀ (rs : List (List Int)) (i : Nat) (acc : List ByteArray), i ≤ s.size → acc.length ≤ i → Splits ((bytesOf s).drop i) rs →
    Ev (fun k => seicheref04_Split.l0 k s acc (i : Int)) (acc ++ rs.map strOfNums, ((i + total rs : Nat) : Int)) := by
  intro rs
  induction rs with
  | nil =>
    intro i acc hi _ hs
    obtain ⟨q, hq, _⟩ := whole_ev (s.extract i s.size) (by rw [← bytesOf_length, extract_to_end, List.length_drop, bytesOf_length]; omega)
    rw [extract_to_end, show wholeL ((bytesOf s).drop i) = none from hs] at hq
    refine Ev.step (fun _ => seicheref04_Split.l0.eq_2 ..) (ev_pos (by omega) (ev_pos (by omega) ?_))
    rw [Int.toNat_natCast]
    exact ev_call hq (ev_neg (by simp) (ev_ret (by simp [total])))
  | cons t rs ih =>
    intro i acc hi hacc hs
    obtain ⟨q, hq, hqt⟩ := whole_ev (s.extract i s.size) (by rw [← bytesOf_length, extract_to_end, List.length_drop, bytesOf_length]; omega)
    rw [extract_to_end] at hq hqt
    have h8 := wholeL_some hs.1
    have hr := (num4_range (byt_drop (byt_bytesOf s) i)).1
    rw [List.length_drop, bytesOf_length] at h8
    rw [hs.1] at hq
    have hqt := hqt t hs.1
    refine Ev.step (fun _ => seicheref04_Split.l0.eq_2 ..) (ev_pos (by omega) (ev_pos (by omega) ?_))
    rw [Int.toNat_natCast]
    refine ev_call hq (ev_pos rfl (ev_pos (by omega) ?_))
    have := ih (i + (8 + t.length)) (acc ++ [q]) (by omega) (by simp; omega) (by rw [← List.drop_drop]; exact hs.2)
    have e : wrap64 (wrap64 ((i : Int) + 8) + (q.size : Int)) = ((i + (8 + t.length) : Nat) : Int) := by
      rw [hqt, strOfNums_size, w64 (x := (i : Int) + 8) (by omega) (by omega), w64 (by omega) (by omega)]; omega
    show Ev (fun k => seicheref04_Split.l0 k s (acc ++ [q]) (wrap64 (wrap64 ((i : Int) + 8) + (q.size : Int)))) _
    rw [e, List.map_cons, total]
    rw [hqt] at this ⊢
    rw [List.append_assoc, List.singleton_append, Nat.add_assoc] at this
    exact this
theorem rsplit_ev (s : ByteArray) (hl : s.size ≤ 16777216) (rs : List (List Int)) (h : Splits (bytesOf s) rs) : Ev (fun k => seicheref04_Split.f k s) (rs.map strOfNums, (total rs : Int)) := by
  have := rsplit_l0 s hl rs 0 [] (by omega) (by simp) h
  rw [List.nil_append, Nat.zero_add] at this
  exact this
/-- The records that stand whole in the first bytes. -/
def cutRecs : Nat → List (List Int) → List (List Int)
  | _, [] => []
  | cut, s :: rs => if 8 + s.length ≤ cut then s :: cutRecs (cut - (8 + s.length)) rs else []
theorem splits_cut : ∀ (rs : List (List Int)) (cut : Nat), (∀ s ∈ rs, s.length ≤ 65536) → Splits ((rs.flatMap recB).take cut) (cutRecs cut rs)
  | [], cut, _ => by
    show wholeL (List.take cut []) = none
    rw [List.take_nil]
    exact wholeL_nil
  | s :: rs, cut, h => by
    have hs := h s (by simp)
    rw [List.flatMap_cons, cutRecs]
    by_cases c : 8 + s.length ≤ cut
    · rw [if_pos c, List.take_append, recB_length, List.take_of_length_le (by rw [recB_length]; exact c)]
      refine ⟨wholeL_rec s _ hs, ?_⟩
      rw [← recB_length s, List.drop_left, recB_length]
      exact splits_cut rs _ (fun x hx => h x (by simp [hx]))
    · rw [if_neg c]
      show wholeL _ = none
      unfold wholeL
      by_cases h8 : ((recB s ++ rs.flatMap recB).take cut).length < 8
      · rw [if_pos h8]
      have hc : 8 ≤ cut := by rw [List.length_take] at h8; omega
      rw [if_neg h8, if_pos]
      right
      rw [num4_take _ _ (by omega)]
      have e1 : num4 (recB s ++ rs.flatMap recB) = s.length := by unfold recB; rw [List.append_assoc]; exact num4_word4 _ _ (by omega) (by omega)
      rw [e1, List.length_take]
      omega
end Go.Proofs.Ytmeaphgjkodioaa.Fr
