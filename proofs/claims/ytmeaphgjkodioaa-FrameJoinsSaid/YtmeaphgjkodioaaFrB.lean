/- Records of chapter 4: their bytes, which stand whole, and what is split. -/
import Derived.Test.YtmeaphgjkodioaaFrA
import Derived.Test.YtmeaphgjkodioaaSame
namespace Go.Proofs.Ytmeaphgjkodioaa.Fr
open Go Go.RowKit Go.Proofs.Ytmeaphgjkodioaa.PAll Go.Proofs.YtmeaphgjkodioaaW.PrintWords Go.Proofs.YtmeaphgjkodioaaW.PrintLast Go.Proofs.YtmeaphgjkodioaaPw
def word4 (n : Int) : List Int := [n % 256, n / 256 % 256, n / 65536 % 256, n / 16777216 % 256]
def num4 (l : List Int) : Int := l.getD 0 0 + 256 * l.getD 1 0 + 65536 * l.getD 2 0 + 16777216 * l.getD 3 0
theorem byt_word4 (n : Int) : Byt (word4 n) := by
  intro x hx
  simp only [word4, List.mem_cons, List.not_mem_nil, or_false] at hx
  omega
theorem num4_word4 (n : Int) (r : List Int) (h0 : 0 ≤ n) (h1 : n < 4294967296) : num4 (word4 n ++ r) = n := by
  simp [num4, word4]
  omega
theorem num4_take (l : List Int) (m : Nat) (h : 4 ≤ m) : num4 (l.take m) = num4 l := by
  have e : ∀ i, i < 4 → (l.take m).getD i 0 = l.getD i 0 := fun i hi => by
    rw [List.getD_eq_getElem?_getD, List.getD_eq_getElem?_getD, List.getElem?_take, if_pos (by omega)]
  simp only [num4, e 0 (by omega), e 1 (by omega), e 2 (by omega), e 3 (by omega)]
theorem num4_range {l : List Int} (h : Byt l) : 0 ≤ num4 l ∧ num4 l < 4294967296 := by
  have a := byt_getD h 0
  have b := byt_getD h 1
  have c := byt_getD h 2
  have d := byt_getD h 3
  unfold num4
  omega
theorem word4_num4 {l : List Int} (h : Byt l) (h4 : 4 ≤ l.length) : word4 (num4 l) = l.take 4 := by
  match l, h, h4 with
  | a :: b :: c :: d :: r, h, _ =>
    have ha := h a (by simp)
    have hb := h b (by simp)
    have hc := h c (by simp)
    have hd := h d (by simp)
    simp [num4, word4]
    omega
def recB (s : List Int) : List Int := word4 s.length ++ (word4 (crc s) ++ s)
theorem recB_length (s : List Int) : (recB s).length = 8 + s.length := by simp [recB, word4]; omega
theorem byt_recB {s : List Int} (h : Byt s) : Byt (recB s) := byt_append (byt_word4 _) (byt_append (byt_word4 _) h)
def wholeL (l : List Int) : Option (List Int) :=
  if l.length < 8 then none else if 65536 < num4 l ∨ (l.length : Int) - 8 < num4 l then none else
    if crc ((l.drop 8).take (num4 l).toNat) = num4 (l.drop 4) then some ((l.drop 8).take (num4 l).toNat) else none
theorem wholeL_rec (s r : List Int) (h : s.length ≤ 65536) : wholeL (recB s ++ r) = some s := by
  have e1 : num4 (recB s ++ r) = s.length := by unfold recB; rw [List.append_assoc]; exact num4_word4 _ _ (by omega) (by omega)
  have e2 : num4 ((recB s ++ r).drop 4) = crc s := by
    have : (recB s ++ r).drop 4 = word4 (crc s) ++ (s ++ r) := by simp [recB, word4]
    rw [this]
    exact num4_word4 _ _ (crc_range s).1 (crc_range s).2
  have e3 : (recB s ++ r).drop 8 = s ++ r := by simp [recB, word4]
  unfold wholeL
  rw [e1, e2, e3, if_neg (by rw [List.length_append, recB_length]; omega), if_neg (by rw [List.length_append, recB_length]; omega)]
  simp
theorem wholeL_some {l s : List Int} (h : wholeL l = some s) : 8 + s.length ≤ l.length ∧ 0 ≤ num4 l ∨ num4 l < 0 := by
  by_cases h0 : num4 l < 0
  · exact .inr h0
  · left
    unfold wholeL at h
    split at h
    · cases h
    · split at h
      · cases h
      · split at h
        · injection h with h
          subst h
          rw [List.length_take, List.length_drop]
          omega
        · cases h
/-- A list of records that bytes begin with, and nothing whole behind. -/
def Splits : List Int → List (List Int) → Prop
  | l, [] => wholeL l = none
  | l, s :: rs => wholeL l = some s ∧ Splits (l.drop (8 + s.length)) rs
def total : List (List Int) → Nat
  | [] => 0
  | s :: rs => 8 + s.length + total rs
theorem splits_uniq : ∀ (rs rs' : List (List Int)) (l : List Int), Splits l rs → Splits l rs' → rs = rs'
  | [], [], _, _, _ => rfl
  | [], _ :: _, l, h, k => by have h := h; have k := k.1; rw [show wholeL l = none from h] at k; cases k
  | _ :: _, [], l, h, k => by have h := h.1; rw [show wholeL l = none from k] at h; cases h
  | s :: rs, s' :: rs', l, h, k => by
    obtain rfl : s = s' := Option.some.inj (h.1.symm.trans k.1)
    rw [splits_uniq rs rs' _ h.2 k.2]
theorem splits_all {l : List Int} (hb : Byt l) : ∃ rs, Splits l rs := by
  have key : ∀ n (l : List Int), l.length ≤ n → Byt l → ∃ rs, Splits l rs := by
    intro n
    induction n with
    | zero =>
      intro l hl _
      exact ⟨[], by show wholeL l = none; unfold wholeL; rw [if_pos (by omega)]⟩
    | succ n ih =>
      intro l hl hb
      cases e : wholeL l with
      | none => exact ⟨[], e⟩
      | some s =>
        have h8 := wholeL_some e
        have := (num4_range hb).1
        obtain ⟨rs, h⟩ := ih (l.drop (8 + s.length)) (by rw [List.length_drop]; omega) (byt_drop hb _)
        exact ⟨s :: rs, e, h⟩
  exact key l.length l (Nat.le_refl _) hb
theorem splits_recs (rs : List (List Int)) (h : ∀ s ∈ rs, s.length ≤ 65536) (r : List Int) (hr : wholeL r = none) : Splits (rs.flatMap recB ++ r) rs := by
  induction rs with
  | nil => exact hr
  | cons s rs ih =>
    have hs := h s (by simp)
    rw [List.flatMap_cons, List.append_assoc]
    refine ⟨wholeL_rec s _ hs, ?_⟩
    rw [← recB_length s, List.drop_left]
    exact ih (fun x hx => h x (by simp [hx]))
theorem total_recs (rs : List (List Int)) : (rs.flatMap recB).length = total rs := by
  induction rs with
  | nil => rfl
  | cons s rs ih => rw [List.flatMap_cons, List.length_append, ih, recB_length]; rfl

/-! The texts. -/
theorem word_eq (l : List Int) (n : Int) (h : l.length < 140737488350000) : frame_word.f l n = some (l ++ word4 n) := by
  unfold frame_word.f
  rw [Option.bind_some, if_pos (by simp; omega)]
  rfl
theorem u8_range {x : Int} (h0 : 0 ≤ x) (h1 : x < 256) (m : Int) (hm : m = 1 ∨ m = 256 ∨ m = 65536 ∨ m = 16777216) : (x % 4294967296 * m) % 4294967296 = x * m := by
  rcases hm with rfl | rfl | rfl | rfl <;> omega
theorem or_add (a b : Nat) (i : Nat) (h : a < 2 ^ i) : a ||| (b * 2 ^ i) = a + b * 2 ^ i := by
  rw [Nat.or_comm, Nat.mul_comm, ← Nat.two_pow_add_eq_or_of_lt h]
  omega
theorem number_eq (l : List Int) (hb : Byt l) (i : Nat) (hl : l.length < 9223372036854775800) (h : i + 4 ≤ l.length) : frame_number.f l (i : Int) = some (num4 (l.drop i)) := by
  unfold frame_number.f
  rw [w64 (by omega) (by omega), w64 (by omega) (by omega), w64 (by omega) (by omega), if_pos (by omega), if_pos (by omega), if_pos (by omega), if_pos (by omega), if_pos (by omega), if_pos (by omega), if_pos (by omega), if_pos (by omega)]
  have e : ∀ j : Nat, (l.drop i).getD j 0 = l.getD (i + j) 0 := fun j => by rw [List.getD_eq_getElem?_getD, List.getD_eq_getElem?_getD, List.getElem?_drop]
  have g0 := byt_getD hb i
  have g1 := byt_getD hb (i + 1)
  have g2 := byt_getD hb (i + 2)
  have g3 := byt_getD hb (i + 3)
  have r : ∀ j : Nat, rd l ((i : Int) + (j : Int)) = l.getD (i + j) 0 := fun j => by unfold rd; congr 1
  have r0 : rd l (i : Int) = l.getD i 0 := by unfold rd; congr 1
  have r1 : rd l ((i : Int) + 1) = l.getD (i + 1) 0 := r 1
  have r2 : rd l ((i : Int) + 2) = l.getD (i + 2) 0 := r 2
  have r3 : rd l ((i : Int) + 3) = l.getD (i + 3) 0 := r 3
  rw [r0, r1, r2, r3]
  unfold num4
  rw [e 0, e 1, e 2, e 3, Nat.add_zero]
  generalize l.getD i 0 = a at *
  generalize l.getD (i + 1) 0 = b at *
  generalize l.getD (i + 2) 0 = c at *
  generalize l.getD (i + 3) 0 = d at *
  obtain ⟨a, rfl⟩ := Int.eq_ofNat_of_zero_le g0.1
  obtain ⟨b, rfl⟩ := Int.eq_ofNat_of_zero_le g1.1
  obtain ⟨c, rfl⟩ := Int.eq_ofNat_of_zero_le g2.1
  obtain ⟨d, rfl⟩ := Int.eq_ofNat_of_zero_le g3.1
  have m1 : ((a : Int) % 4294967296) = ((a : Nat) : Int) := by omega
  have m2 : ((b : Int) % 4294967296 * 256) % 4294967296 = ((b * 2 ^ 8 : Nat) : Int) := by omega
  have m3 : ((c : Int) % 4294967296 * 65536) % 4294967296 = ((c * 2 ^ 16 : Nat) : Int) := by omega
  have m4 : ((d : Int) % 4294967296 * 16777216) % 4294967296 = ((d * 2 ^ 24 : Nat) : Int) := by omega
  rw [m1, m2, m3, m4, u32_or_nat _ _ (by omega) (by omega), or_add a b 8 (by omega), u32_or_nat _ _ (by omega) (by omega), or_add _ c 16 (by omega), u32_or_nat _ _ (by omega) (by omega), or_add _ d 24 (by omega)]
  congr 1
  omega
theorem cut_drop (l : List Int) (i m : Nat) : (l.take (i + m)).drop i = (l.drop i).take m := by
  rw [List.drop_take]
  congr 1
  omega
theorem split_l0 (b : List Int) (hb : Byt b) (hl : b.length ≤ 16777216) : ∀ (rs : List (List Int)) (i : Nat) (acc : List ByteArray), i ≤ b.length → acc.length ≤ i → Splits (b.drop i) rs →
    Ev (fun k => frame_Split.l0 k b acc (i : Int)) (acc ++ rs.map strOfNums, ((i + total rs : Nat) : Int)) := by
  have hdl : ∀ i : Nat, (b.drop i).length = b.length - i := fun i => List.length_drop
  have hz : ∀ i : Nat, i ≤ b.length → wrap64 ((b.length : Int) - (i : Int)) = (((b.drop i).length : Nat) : Int) := fun i hi => by
    rw [w64 (by omega) (by omega), List.length_drop]; omega
  intro rs
  induction rs with
  | nil =>
    intro i acc hi _ hs
    have hs : wholeL (b.drop i) = none := hs
    refine Ev.step (fun _ => frame_Split.l0.eq_2 ..) ?_
    rw [hz i hi, List.map_nil, List.append_nil, total, Nat.add_zero]
    by_cases h8 : (b.drop i).length < 8
    · exact ev_neg (by omega) (Ev.now _)
    refine ev_pos (by omega) ?_
    have h8' : i + 8 ≤ b.length := by rw [List.length_drop] at h8; omega
    refine ev_call (ev_eq (number_eq b hb i (by omega) (by omega))) ?_
    have hr := num4_range (byt_drop hb i)
    by_cases hn : num4 (b.drop i) > 65536
    · refine ev_pos hn (Ev.step (fun _ => frame_Split.j1.eq_2 ..) ?_)
      exact ev_pos rfl (Ev.now _)
    refine ev_neg hn (Ev.step (fun _ => frame_Split.j1.eq_2 ..) ?_)
    rw [w64 (x := num4 (b.drop i)) (by omega) (by omega), w64 (x := (((b.drop i).length : Nat) : Int) - 8) (by rw [hdl]; omega) (by rw [hdl]; omega)]
    by_cases hn2 : num4 (b.drop i) > ((b.drop i).length : Int) - 8
    · exact ev_pos (decide_eq_true hn2) (Ev.now _)
    refine ev_neg (by simpa using hn2) ?_
    rw [w64 (x := (i : Int) + 8) (by omega) (by omega), w64 (x := (i : Int) + 8 + num4 (b.drop i)) (by omega) (by omega)]
    refine ev_pos (by omega) (ev_pos (by omega) (ev_pos (by rw [List.length_drop] at hn2; omega) ?_))
    obtain ⟨n, en⟩ := Int.eq_ofNat_of_zero_le hr.1
    rw [en] at hn hn2 ⊢
    rw [show ((i : Int) + 8 + (n : Int)).toNat = i + 8 + n by omega, show ((i : Int) + 8).toNat = i + 8 by omega, cut_drop]
    refine ev_call (check_ev _ (by rw [strOfNums_size, List.length_take, List.length_drop]; omega)) ?_
    rw [bytes_str (byt_take (byt_drop hb _) _), w64 (x := (i : Int) + 4) (by omega) (by omega), show (i : Int) + 4 = ((i + 4 : Nat) : Int) by omega]
    refine ev_call (ev_eq (number_eq b hb (i + 4) (by omega) (by omega))) ?_
    refine ev_neg (fun e => ?_) (Ev.now _)
    unfold wholeL at hs
    rw [if_neg h8, if_neg (by rw [en]; omega), en, Int.toNat_natCast, List.drop_drop, List.drop_drop, if_pos e] at hs
    cases hs
  | cons s rs ih =>
    intro i acc hi hacc hs
    obtain ⟨hs, hrest⟩ := hs
    have hlen := wholeL_some hs
    have hr := num4_range (byt_drop hb i)
    unfold wholeL at hs
    by_cases h8 : (b.drop i).length < 8
    · rw [if_pos h8] at hs; cases hs
    rw [if_neg h8] at hs
    by_cases hc : 65536 < num4 (b.drop i) ∨ ((b.drop i).length : Int) - 8 < num4 (b.drop i)
    · rw [if_pos hc] at hs; cases hs
    rw [if_neg hc] at hs
    obtain ⟨n, en⟩ := Int.eq_ofNat_of_zero_le hr.1
    have h8' : i + 8 ≤ b.length := by rw [List.length_drop] at h8; omega
    by_cases e : crc (((b.drop i).drop 8).take (num4 (b.drop i)).toNat) = num4 ((b.drop i).drop 4)
    case neg => rw [if_neg e] at hs; cases hs
    rw [if_pos e] at hs
    injection hs with hs
    refine Ev.step (fun _ => frame_Split.l0.eq_2 ..) ?_
    rw [hz i hi]
    refine ev_pos (by omega) ?_
    refine ev_call (ev_eq (number_eq b hb i (by omega) (by omega))) ?_
    refine ev_neg (by omega) (Ev.step (fun _ => frame_Split.j1.eq_2 ..) ?_)
    rw [w64 (x := num4 (b.drop i)) (by omega) (by omega), w64 (x := (((b.drop i).length : Nat) : Int) - 8) (by rw [hdl]; omega) (by rw [hdl]; omega)]
    refine ev_neg (by have := hdl i; simp; omega) ?_
    rw [w64 (x := (i : Int) + 8) (by omega) (by omega), w64 (x := (i : Int) + 8 + num4 (b.drop i)) (by omega) (by omega)]
    have hd' := hdl i
    refine ev_pos (by omega) (ev_pos (by omega) (ev_pos (by omega) ?_))
    rw [en] at hs e hc ⊢
    rw [show ((i : Int) + 8 + (n : Int)).toNat = i + 8 + n by omega, show ((i : Int) + 8).toNat = i + 8 by omega, cut_drop]
    rw [Int.toNat_natCast, List.drop_drop] at hs e
    rw [List.drop_drop] at e
    rw [hs] at e ⊢
    have hbs : Byt s := by rw [← hs]; exact byt_take (byt_drop hb _) _
    have hsl : s.length = n := by rw [← hs, List.length_take, List.length_drop]; omega
    refine ev_call (check_ev _ (by rw [strOfNums_size]; omega)) ?_
    rw [bytes_str hbs, w64 (x := (i : Int) + 4) (by omega) (by omega), show (i : Int) + 4 = ((i + 4 : Nat) : Int) by omega]
    refine ev_call (ev_eq (number_eq b hb (i + 4) (by omega) (by omega))) ?_
    refine ev_pos e (ev_pos (by omega) ?_)
    have := ih (i + (8 + s.length)) (acc ++ [strOfNums s]) (by omega) (by simp; omega) (by rw [← List.drop_drop]; exact hrest)
    rw [show (((i + (8 + s.length)) : Nat) : Int) = (i : Int) + 8 + (n : Int) by omega] at this
    rw [List.map_cons, total, ← Nat.add_assoc]
    simpa using this
theorem split_ev (b : List Int) (hb : Byt b) (hl : b.length ≤ 16777216) (rs : List (List Int)) (h : Splits b rs) : Ev (fun k => frame_Split.f k b) (rs.map strOfNums, (total rs : Int)) := by
  have := split_l0 b hb hl rs 0 [] (by omega) (by simp) h
  rw [List.nil_append, Nat.zero_add] at this
  exact this
def shortB (s : ByteArray) : Bool := decide (s.size ≤ 65536)
def putB (l : List ByteArray) : List Int := (l.filter shortB).flatMap fun s => recB (bytesOf s)
theorem put_l0 (l : List ByteArray) (hl : l.length < 9223372036854775807) : ∀ (d i : Nat) (acc : List Int), i + d = l.length → acc.length + (putB (l.drop i)).length ≤ 1099511627776 →
    Ev (fun k => frame_Put.l0 k acc l (l.length : Int) (i : Int)) (acc ++ putB (l.drop i))
  | 0, i, acc, hd, _ => Ev.step (fun _ => frame_Put.l0.eq_2 ..) (ev_neg (by omega) (ev_ret (by rw [List.drop_of_length_le (by omega)]; simp [putB])))
  | d + 1, i, acc, hd, hb => Ev.step (fun _ => frame_Put.l0.eq_2 ..) (ev_pos (by omega) (ev_pos (by omega) (ev_pos (by omega) (by
      rw [drop_rdOf ByteArray.empty l i (by omega)] at hb ⊢
      generalize rdOf ByteArray.empty l (i : Int) = s at hb ⊢
      by_cases hs : s.size ≤ 65536
      · have ef : putB (s :: l.drop (i + 1)) = recB (bytesOf s) ++ putB (l.drop (i + 1)) := by simp [putB, shortB, hs]
        rw [ef] at hb ⊢
        rw [List.length_append, recB_length, bytesOf_length] at hb
        refine ev_pos (by omega) ?_
        refine ev_call (ev_eq (word_eq _ _ (by omega))) (ev_call (check_ev s (by omega)) (ev_call (ev_eq (word_eq _ _ (by simp [word4]; omega))) ?_))
        refine ev_pos (by simp [word4]; omega) ?_
        rw [w64 (by omega) (by omega)]
        have e : acc ++ word4 ((s.size : Int) % 4294967296) ++ word4 (crc (bytesOf s)) ++ bytesOf s = acc ++ recB (bytesOf s) := by
          rw [show (s.size : Int) % 4294967296 = ((bytesOf s).length : Int) by rw [bytesOf_length]; omega]
          simp [recB]
        rw [e, ← List.append_assoc]
        exact put_l0 l hl d (i + 1) _ (by omega) (by rw [List.length_append, recB_length, bytesOf_length]; omega)
      · have ef : putB (s :: l.drop (i + 1)) = putB (l.drop (i + 1)) := by simp [putB, shortB, hs]
        rw [ef] at hb ⊢
        refine ev_neg (by omega) ?_
        rw [w64 (by omega) (by omega)]
        exact put_l0 l hl d (i + 1) _ (by omega) hb))))
theorem put_ev (acc : List Int) (l : List ByteArray) (hl : l.length < 9223372036854775807) (hb : acc.length + (putB l).length ≤ 1099511627776) : Ev (fun k => frame_Put.f k acc l) (acc ++ putB l) := put_l0 l hl l.length 0 acc (by omega) hb
theorem byt_putB (l : List ByteArray) : Byt (putB l) := by
  intro x hx
  simp only [putB, List.mem_flatMap] at hx
  obtain ⟨s, _, h⟩ := hx
  exact byt_recB (byt_bytesOf s) x h
/-! What is more than is played. -/
def sizes : List ByteArray → Nat
  | [] => 0
  | s :: l => s.size + sizes l
theorem great_l0 (l : List ByteArray) (hl : l.length < 9223372036854775807) (hs : ∀ s ∈ l, s.size ≤ 140737488351232) : ∀ (d i n : Nat), i + d = l.length → n ≤ 8192 →
    ∃ b, Ev (fun k => seichelaw04_great.l0 k l (n : Int) l (l.length : Int) (i : Int)) b ∧ (b = false → n + sizes (l.drop i) ≤ 8192 ∧ l.length ≤ 60)
  | 0, i, n, hd, hn => ⟨decide ((l.length : Int) > 60), Ev.step (fun _ => seichelaw04_great.l0.eq_2 ..) (ev_neg (by omega) (Ev.now _)), fun h => by
      rw [List.drop_of_length_le (by omega)]
      have := of_decide_eq_false h
      simp only [sizes]
      omega⟩
  | d + 1, i, n, hd, hn => by
      have hm := hs _ (rdOf_mem ByteArray.empty l i (by omega))
      have e : wrap64 ((n : Int) + ((rdOf ByteArray.empty l (i : Int)).size : Int)) = ((n + (rdOf ByteArray.empty l (i : Int)).size : Nat) : Int) := by rw [w64 (by omega) (by omega)]; omega
      by_cases hc : n + (rdOf ByteArray.empty l (i : Int)).size > 8192
      · exact ⟨true, Ev.step (fun _ => seichelaw04_great.l0.eq_2 ..) (ev_pos (by omega) (ev_pos (by omega) (ev_pos (by omega) (ev_pos (by rw [e]; omega) (Ev.now _))))), fun h => by cases h⟩
      · obtain ⟨b, hb, hf⟩ := great_l0 l hl hs d (i + 1) (n + (rdOf ByteArray.empty l (i : Int)).size) (by omega) (by omega)
        refine ⟨b, Ev.step (fun _ => seichelaw04_great.l0.eq_2 ..) (ev_pos (by omega) (ev_pos (by omega) (ev_pos (by omega) (ev_neg (by rw [e]; omega) ?_)))), fun h => ?_⟩
        · rw [e, w64 (x := (i : Int) + 1) (by omega) (by omega)]
          exact hb
        · rw [drop_rdOf ByteArray.empty l i (by omega), sizes]
          have := hf h
          omega
theorem great_ev (l : List ByteArray) (_ : l.length ≤ maxLen) (h16 : l.length * 16 ≤ 140737488351232) (hs : ∀ s ∈ l, s.size ≤ 140737488351232) : ∃ b, Ev (fun k => seichelaw04_great.f k l) b ∧ (b = false → sizes l ≤ 8192 ∧ l.length ≤ 60) := by
  obtain ⟨b, h, hf⟩ := great_l0 l (by omega) hs l.length 0 0 (by omega) (by omega)
  exact ⟨b, h, fun e => by have := hf e; simpa using this⟩
theorem size_le {l : List ByteArray} {s : ByteArray} (h : s ∈ l) : s.size ≤ sizes l := by
  induction l with
  | nil => cases h
  | cons a l ih =>
    simp only [sizes]
    rcases List.mem_cons.1 h with rfl | h
    · omega
    · have := ih h; omega
theorem putB_short {l : List ByteArray} (h : ∀ s ∈ l, s.size ≤ 65536) : putB l = (l.map bytesOf).flatMap recB := by
  rw [putB, (List.filter_eq_self (p := shortB)).2 (fun s hs => decide_eq_true (h s hs)), List.flatMap_map]
theorem putB_length {l : List ByteArray} (h : ∀ s ∈ l, s.size ≤ 65536) : (putB l).length = 8 * l.length + sizes l := by
  rw [putB_short h]
  clear h
  induction l with
  | nil => rfl
  | cons s l ih => rw [List.map_cons, List.flatMap_cons, List.length_append, recB_length, bytesOf_length, ih, sizes, List.length_cons]; omega
theorem alive_ev : Ev (fun k => seichelaw04_alive.f k) true := Ev.of (fun k => seichelaw04_alive.mono k) (k := 100) (by kernel_rfl)
theorem map_str (l : List ByteArray) : (l.map bytesOf).map strOfNums = l := by
  rw [List.map_map]
  conv => rhs; rw [← List.map_id l]
  exact List.map_congr_left fun s _ => str_bytes s
theorem wholeL_nil : wholeL [] = none := by decide
/-- WHAT WAS PUT IS SPLIT WHOLE. -/
theorem splits_put {l : List ByteArray} (h : ∀ s ∈ l, s.size ≤ 65536) : Splits (putB l) (l.map bytesOf) := by
  have := splits_recs (l.map bytesOf) (fun s hs => by obtain ⟨t, ht, rfl⟩ := List.mem_map.1 hs; rw [bytesOf_length]; exact h t ht) [] wholeL_nil
  rwa [List.append_nil, ← putB_short h] at this
theorem total_put {l : List ByteArray} (h : ∀ s ∈ l, s.size ≤ 65536) : total (l.map bytesOf) = (putB l).length := by rw [putB_short h, total_recs]
end Go.Proofs.Ytmeaphgjkodioaa.Fr
