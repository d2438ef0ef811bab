/- Texts joined into one, as chapter 1 tells it: numbers of eight bytes, joining and splitting, over lists. -/
import Derived.Test.YtomicnackfcgoaaSame
import Derived.Laws.BitsAllLaws
namespace Go.Proofs.Ytomicnackfcgoaa.Fr
open Go Go.RowKit Go.Proofs.Ytomicnackfcgoaa.PAll Go.Proofs.YtomicnackfcgoaaW.PrintWords Go.Proofs.YtomicnackfcgoaaW.PrintLast Go.Proofs.YtomicnackfcgoaaPw
def num8 (n : Int) : List Int := [IntKind.u64.wrap n / 72057594037927936 % 256, IntKind.u64.wrap n / 281474976710656 % 256, IntKind.u64.wrap n / 1099511627776 % 256, IntKind.u64.wrap n / 4294967296 % 256, IntKind.u64.wrap n / 16777216 % 256, IntKind.u64.wrap n / 65536 % 256, IntKind.u64.wrap n / 256 % 256, IntKind.u64.wrap n % 256]
theorem u64_range (n : Int) : 0 ≤ IntKind.u64.wrap n ∧ IntKind.u64.wrap n < 18446744073709551616 := by
  unfold IntKind.wrap
  simp only [IntKind.bits, IntKind.signed]
  simp
  omega
theorem u64_id {n : Int} (h0 : 0 ≤ n) (h1 : n < 18446744073709551616) : IntKind.u64.wrap n = n := by
  unfold IntKind.wrap
  simp only [IntKind.bits, IntKind.signed]
  simp
  omega
theorem u64_back {n : Int} (h0 : -9223372036854775808 ≤ n) (h1 : n < 9223372036854775808) : wrap64 (IntKind.u64.wrap n) = n := by
  unfold IntKind.wrap wrap64
  simp only [IntKind.bits, IntKind.signed]
  simp
  omega
theorem u64_wrap64 {n : Int} (h0 : 0 ≤ n) (h1 : n < 18446744073709551616) : IntKind.u64.wrap (wrap64 n) = n := by
  unfold IntKind.wrap wrap64
  simp only [IntKind.bits, IntKind.signed]
  simp
  omega
theorem byt_num8 (n : Int) : Byt (num8 n) := by
  intro x hx
  simp only [num8, List.mem_cons, List.not_mem_nil, or_false] at hx
  omega
theorem num8_length (n : Int) : (num8 n).length = 8 := rfl
/-- The number that bytes are, the highest first. -/
def be : Int → List Int → Int
  | x, [] => x
  | x, b :: l => be (x * 256 + b) l
def uv (l : List Int) : Int := be 0 (l.take 8)
theorem be_append : ∀ (l m : List Int) (x : Int), be x (l ++ m) = be (be x l) m
  | [], _, _ => rfl
  | _ :: l, m, _ => be_append l m _
theorem eight {l : List Int} (h : 8 ≤ l.length) : ∃ a b c d e f g i r, l = a :: b :: c :: d :: e :: f :: g :: i :: r := by
  match l, h with
  | a :: b :: c :: d :: e :: f :: g :: i :: r, _ => exact ⟨a, b, c, d, e, f, g, i, r, rfl⟩
theorem uv_num8 (n : Int) (r : List Int) : uv (num8 n ++ r) = IntKind.u64.wrap n := by
  have h := u64_range n
  simp only [uv, num8, List.cons_append, List.nil_append, List.take_succ_cons, List.take_zero, be]
  generalize IntKind.u64.wrap n = u at h
  omega
theorem num8_uv {l : List Int} (hb : Byt l) (h : 8 ≤ l.length) : 0 ≤ uv l ∧ uv l < 18446744073709551616 ∧ num8 (uv l) = l.take 8 := by
  obtain ⟨a, b, c, d, e, f, g, i, r, rfl⟩ := eight h
  have ha := hb a (by simp)
  have h1 := hb b (by simp)
  have h2 := hb c (by simp)
  have h3 := hb d (by simp)
  have h4 := hb e (by simp)
  have h5 := hb f (by simp)
  have h6 := hb g (by simp)
  have h7 := hb i (by simp)
  have hu : uv (a :: b :: c :: d :: e :: f :: g :: i :: r) = ((((((a * 256 + b) * 256 + c) * 256 + d) * 256 + e) * 256 + f) * 256 + g) * 256 + i := by
    simp only [uv, List.take_succ_cons, List.take_zero, be]
    omega
  rw [hu]
  refine ⟨by omega, by omega, ?_⟩
  unfold num8
  rw [u64_id (by omega) (by omega)]
  simp only [List.take_succ_cons, List.take_zero, List.cons.injEq, and_true]
  omega
def flat (ps : List (List Int)) : List Int := ps.flatMap fun p => num8 p.length ++ p
def joinL (ps : List (List Int)) : List Int := num8 ps.length ++ flat ps
theorem flat_cons (p : List Int) (ps : List (List Int)) : flat (p :: ps) = num8 p.length ++ (p ++ flat ps) := by simp [flat]
/-- As many parts as are told, and nothing behind. -/
def parts : Nat → List Int → Option (List (List Int))
  | 0, l => if l.length = 0 then some [] else none
  | k + 1, l => if l.length < 8 then none else if (l.length : Int) - 8 < uv l then none else (parts k (l.drop (8 + (uv l).toNat))).map (((l.drop 8).take (uv l).toNat) :: ·)
def splitL (l : List Int) : Option (List (List Int)) := if l.length < 8 then none else parts (uv l).toNat (l.drop 8)
theorem parts_le : ∀ (k : Nat) (l : List Int) (ps : List (List Int)), Byt l → parts k l = some ps → 8 * k ≤ l.length
  | 0, _, _, _, _ => by omega
  | k + 1, l, ps, hb, h => by
    unfold parts at h
    split at h
    · cases h
    · split at h
      · cases h
      · obtain ⟨qs, hq, _⟩ := Option.map_eq_some_iff.1 h
        have := parts_le k _ qs (byt_drop hb _) hq
        rw [List.length_drop] at this
        omega
theorem parts_flat : ∀ (ps : List (List Int)) (t : List Int), (∀ p ∈ ps, p.length < 9223372036854775808) → parts ps.length (flat ps ++ t) = if t.length = 0 then some ps else none
  | [], t, _ => by simp [flat, parts]
  | p :: ps, t, h => by
    have hp := h p (by simp)
    rw [flat_cons, List.append_assoc, List.length_cons, parts, uv_num8, u64_id (by omega) (by omega), if_neg (by rw [List.length_append, num8_length]; omega), if_neg (by simp [num8_length]; omega)]
    rw [Int.toNat_natCast, List.append_assoc, ← List.drop_drop, show (num8 (p.length : Int) ++ (p ++ (flat ps ++ t))).drop 8 = p ++ (flat ps ++ t) from rfl, List.drop_left, List.take_left, parts_flat ps t (fun q hq => h q (by simp [hq]))]
    split <;> simp
theorem parts_some : ∀ (k : Nat) (l : List Int) (ps : List (List Int)), Byt l → parts k l = some ps → l = flat ps ∧ ps.length = k
  | 0, l, ps, _, h => by
    unfold parts at h
    split at h
    · injection h with h
      subst h
      exact ⟨List.eq_nil_of_length_eq_zero (by assumption), rfl⟩
    · cases h
  | k + 1, l, ps, hb, h => by
    unfold parts at h
    split at h
    · cases h
    rename_i h8
    split at h
    · cases h
    rename_i hn
    obtain ⟨qs, hq, rfl⟩ := Option.map_eq_some_iff.1 h
    obtain ⟨e1, e2⟩ := parts_some k _ qs (byt_drop hb _) hq
    obtain ⟨n0, n1, n2⟩ := num8_uv hb (by omega)
    refine ⟨?_, by simp [e2]⟩
    have hl : ((l.drop 8).take (uv l).toNat).length = (uv l).toNat := by rw [List.length_take, List.length_drop]; omega
    rw [flat_cons, hl, ← e1, show (((uv l).toNat : Nat) : Int) = uv l by omega, n2, ← List.drop_drop, List.take_append_drop, List.take_append_drop]
theorem splitL_join (ps : List (List Int)) (h : ∀ p ∈ ps, p.length < 9223372036854775808) (hl : ps.length < 9223372036854775808) (t : List Int) : splitL (joinL ps ++ t) = if t.length = 0 then some ps else none := by
  unfold splitL joinL
  rw [List.append_assoc, uv_num8, u64_id (by omega) (by omega), if_neg (by rw [List.length_append, num8_length]; omega), Int.toNat_natCast]
  exact parts_flat ps t h
theorem splitL_some {l : List Int} {ps : List (List Int)} (hb : Byt l) (h : splitL l = some ps) : l = joinL ps := by
  unfold splitL at h
  split at h
  · cases h
  rename_i h8
  obtain ⟨e1, e2⟩ := parts_some _ _ ps (byt_drop hb 8) h
  obtain ⟨n0, n1, n2⟩ := num8_uv hb (by omega)
  unfold joinL
  rw [e2, ← e1, show (((uv l).toNat : Nat) : Int) = uv l by omega, n2, List.take_append_drop]
theorem flat_length (ps : List (List Int)) : (flat ps).length = 8 * ps.length + (ps.map List.length).sum := by
  induction ps with
  | nil => rfl
  | cons p ps ih => rw [flat_cons, List.length_append, List.length_append, num8_length, ih]; simp; omega
theorem byt_flat {ps : List (List Int)} (h : ∀ p ∈ ps, Byt p) : Byt (flat ps) := by
  intro x hx
  simp only [flat, List.mem_flatMap] at hx
  obtain ⟨p, hp, hx⟩ := hx
  exact byt_append (byt_num8 _) (h p hp) x hx
theorem byt_join {ps : List (List Int)} (h : ∀ p ∈ ps, Byt p) : Byt (joinL ps) := byt_append (byt_num8 _) (byt_flat h)

/-! The texts. -/
theorem num_eq (n : Int) : code_Num.f n = some (strOfNums (num8 n)) := rfl
theorem or_u64 (x b : Int) (h0 : 0 ≤ x) (h1 : x < 72057594037927936) (h2 : 0 ≤ b) (h3 : b < 256) : Go.bits .or .u64 (IntKind.u64.wrap (x * 256)) (IntKind.u64.wrap b) = x * 256 + b := by
  rw [u64_id (by omega) (by omega), u64_id (by omega) (by omega), u64_or _ _ (by omega) (by omega) (by omega) (by omega)]
  obtain ⟨x, rfl⟩ := Int.eq_ofNat_of_zero_le h0
  obtain ⟨b, rfl⟩ := Int.eq_ofNat_of_zero_le h2
  have e1 : ((x : Int) * 256).toNat = 2 ^ 8 * x := by omega
  have e2 : ((b : Int)).toNat = b := by omega
  rw [e1, e2, ← Nat.two_pow_add_eq_or_of_lt (by omega)]
  omega
theorem be_range : ∀ (l : List Int) (x : Int) (m : Int), Byt l → 0 ≤ x → x < m → 0 ≤ be x l ∧ be x l < m * 256 ^ l.length
  | [], x, m, _, h0, h1 => ⟨h0, by rw [List.length_nil, Int.pow_zero, Int.mul_one]; exact h1⟩
  | b :: l, x, m, hb, h0, h1 => by
    have h := hb b (by simp)
    have := be_range l (x * 256 + b) (m * 256) (fun y hy => hb y (by simp [hy])) (by omega) (by omega)
    rw [List.length_cons, Int.pow_succ, Int.mul_comm (256 ^ l.length) 256, ← Int.mul_assoc]
    exact this
theorem take_succ_bytes (s : ByteArray) (i : Nat) (h : i < s.size) : (bytesOf s).take (i + 1) = (bytesOf s).take i ++ [bt s i] := by
  have hl : i < (bytesOf s).length := by rw [bytesOf_length]; exact h
  rw [List.take_succ_eq_append_getElem hl]
  congr 2
  rw [← bytesOf_getD, List.getD_eq_getElem?_getD, List.getElem?_eq_getElem hl]
  rfl
theorem pow_le (i : Nat) (h : i < 8) : (256 : Int) ^ i ≤ 72057594037927936 := by
  match i, h with
  | 0, _ | 1, _ | 2, _ | 3, _ | 4, _ | 5, _ | 6, _ | 7, _ => decide
theorem be_take_range (s : ByteArray) (i : Nat) (h : i < 8) (hs : 8 ≤ s.size) : 0 ≤ be 0 ((bytesOf s).take i) ∧ be 0 ((bytesOf s).take i) < 72057594037927936 := by
  have r := be_range ((bytesOf s).take i) 0 1 (byt_take (byt_bytesOf s) i) (by omega) (by omega)
  rw [List.length_take, bytesOf_length, show min i s.size = i by omega, Int.one_mul] at r
  have := pow_le i h
  omega
theorem read_l0 (s : ByteArray) (hs : 8 ≤ s.size) : ∀ (d i : Nat), i + d = 8 →
    Ev (fun k => code_ReadNum.l0 k s (be 0 ((bytesOf s).take i)) (i : Int)) (wrap64 (uv (bytesOf s)), true)
  | 0, i, hd => by
    obtain rfl : i = 8 := by omega
    exact Ev.step (fun _ => code_ReadNum.l0.eq_2 ..) (ev_neg (by omega) (ev_ret rfl))
  | d + 1, i, hd => by
    have r := be_take_range s i (by omega) hs
    have b := bt_range s i
    refine Ev.step (fun _ => code_ReadNum.l0.eq_2 ..) (ev_pos (by omega) (ev_pos (by omega) (ev_pos (by omega) ?_)))
    rw [or_u64 _ _ r.1 r.2 b.1 (by omega), w64 (by omega) (by omega)]
    have ih := read_l0 s hs d (i + 1) (by omega)
    rw [take_succ_bytes s i (by omega), be_append] at ih
    exact ih
theorem read_ev (s : ByteArray) : Ev (fun k => code_ReadNum.f k s) (if s.size < 8 then (0, false) else (wrap64 (uv (bytesOf s)), true)) := by
  by_cases h : s.size < 8
  · rw [if_pos h]; exact ev_pos (by omega) (Ev.now _)
  · rw [if_neg h]
    exact ev_neg (by omega) (read_l0 s (by omega) 8 0 (by omega))
theorem rnumber_l0 (s : ByteArray) (hs : 8 ≤ s.size) : ∀ (d i : Nat), i + d = 8 →
    ∃ q b, Ev (fun k => seicheref01_number.l0 k s (be 0 ((bytesOf s).take i)) (i : Int)) (q, b) ∧ b = decide (uv (bytesOf s) ≤ 1099511627776) ∧ (b = true → q = uv (bytesOf s))
  | 0, i, hd => by
    obtain rfl : i = 8 := by omega
    exact ⟨_, _, Ev.step (fun _ => seicheref01_number.l0.eq_2 ..) (ev_neg (by omega) (Ev.now _)), rfl, fun _ => rfl⟩
  | d + 1, i, hd => by
    have r := be_take_range s i (by omega) hs
    have b := bt_range s i
    by_cases c : be 0 ((bytesOf s).take i) > 1099511627776
    · refine ⟨_, _, Ev.step (fun _ => seicheref01_number.l0.eq_2 ..) (ev_pos (by omega) (ev_pos c (Ev.now _))), ?_, fun h => by cases h⟩
      have mono : ∀ (l : List Int) (x : Int), Byt l → 0 ≤ x → x ≤ be x l := by
        intro l
        induction l with
        | nil => intro x _ _; exact Int.le_refl _
        | cons y l ih =>
          intro x hb h0
          have hy := hb y (by simp)
          have := ih (x * 256 + y) (fun z hz => hb z (by simp [hz])) (by omega)
          unfold be
          omega
      have e : uv (bytesOf s) = be (be 0 ((bytesOf s).take i)) (((bytesOf s).take 8).drop i) := by
        rw [uv, ← be_append]
        congr 1
        rw [show (bytesOf s).take i = ((bytesOf s).take 8).take i by rw [List.take_take]; congr 1; omega, List.take_append_drop]
      have := mono (((bytesOf s).take 8).drop i) (be 0 ((bytesOf s).take i)) (byt_drop (byt_take (byt_bytesOf s) _) _) (by omega)
      rw [decide_eq_false (by omega)]
    · obtain ⟨q, bb, h, h1, h2⟩ := rnumber_l0 s hs d (i + 1) (by omega)
      refine ⟨q, bb, Ev.step (fun _ => seicheref01_number.l0.eq_2 ..) (ev_pos (by omega) (ev_neg c (ev_pos (by omega) (ev_pos (by omega) ?_)))), h1, h2⟩
      rw [w64 (x := 256 * be 0 ((bytesOf s).take i)) (by omega) (by omega), w64 (x := bt s (i : Int)) (by omega) (by omega), w64 (x := 256 * be 0 ((bytesOf s).take i) + bt s (i : Int)) (by omega) (by omega), w64 (x := (i : Int) + 1) (by omega) (by omega)]
      rw [take_succ_bytes s i (by omega), be_append] at h
      rw [Int.mul_comm 256]
      exact h
theorem rnumber_ev (s : ByteArray) : ∃ q b, Ev (fun k => seicheref01_number.f k s) (q, b) ∧ b = (decide (8 ≤ s.size) && decide (uv (bytesOf s) ≤ 1099511627776)) ∧ (b = true → q = uv (bytesOf s)) := by
  by_cases h : s.size < 8
  · exact ⟨_, _, ev_pos (by omega) (Ev.now _), by simp; omega, fun h => by cases h⟩
  · obtain ⟨q, b, h1, h2, h3⟩ := rnumber_l0 s (by omega) 8 0 (by omega)
    exact ⟨q, b, ev_neg (by omega) h1, by rw [h2, decide_eq_true (by omega : 8 ≤ s.size), Bool.true_and], h3⟩
theorem mn_eq (a b : Int) : mn a b = if a ≤ b then a else b := by unfold mn; split <;> split <;> omega
theorem split_l0 (count : Nat) (hc : count ≤ 1048576) : ∀ (d i : Nat) (acc : List ByteArray) (s : ByteArray), i + d = count → acc.length ≤ i → s.size ≤ 1048576 →
    Ev (fun k => code_Split.l0 k acc s (count : Int) (i : Int)) (match parts d (bytesOf s) with | some ps => (acc ++ ps.map strOfNums, 0) | none => ([], 4))
  | 0, i, acc, s, hd, _, hs => by
    have hl := bytesOf_length s
    refine Ev.step (fun _ => code_Split.l0.eq_2 ..) (ev_neg (by omega) ?_)
    by_cases h : s.size = 0
    · have e : s = ⟨#[]⟩ := bytes_inj (by rw [List.eq_nil_of_length_eq_zero (show (bytesOf s).length = 0 by omega)]; rfl)
      subst e
      exact ev_pos (by simp [ba_toList]) (ev_ret (by simp [parts, bytesOf]))
    · refine ev_neg (fun e => h ?_) (ev_ret ?_)
      · rw [ba_toList] at e
        have := congrArg List.length e
        simpa using this
      · unfold parts
        rw [if_neg (by omega)]
  | d + 1, i, acc, s, hd, ha, hs => by
    have hl := bytesOf_length s
    refine Ev.step (fun _ => code_Split.l0.eq_2 ..) (ev_pos (by omega) (ev_call (read_ev s) ?_))
    unfold parts
    by_cases h : s.size < 8
    · rw [if_pos h, if_pos (by omega)]
      exact ev_neg (by simp) (Ev.now _)
    rw [if_neg h, if_neg (by omega)]
    have hn := num8_uv (byt_bytesOf s) (by omega)
    refine ev_pos rfl ?_
    by_cases h2 : (s.size : Int) - 8 < uv (bytesOf s)
    · rw [if_pos (by rw [hl]; exact h2)]
      by_cases h3 : wrap64 (uv (bytesOf s)) < 0
      · exact ev_pos h3 (Ev.now _)
      · refine ev_neg h3 (ev_pos ?_ (Ev.now _))
        rw [w64 (x := (s.size : Int) - 8) (by omega) (by omega)]
        unfold wrap64 at h3 ⊢
        dsimp only
        omega
    rw [if_neg (by rw [hl]; exact h2), w64 (x := uv (bytesOf s)) (by omega) (by omega), w64 (x := (s.size : Int) - 8) (by omega) (by omega)]
    dsimp only
    rw [w64 (x := 8 + uv (bytesOf s)) (by omega) (by omega)]
    obtain ⟨n, en⟩ := Int.eq_ofNat_of_zero_le hn.1
    rw [en] at h2 ⊢
    refine ev_neg (by omega) (ev_neg (by omega) (ev_pos (by omega) (ev_pos (by omega) (ev_pos (by omega) (ev_pos (by omega) ?_)))))
    rw [show (8 + (n : Int)).toNat = 8 + n by omega, w64 (x := (i : Int) + 1) (by omega) (by omega), Int.toNat_natCast]
    have ih := split_l0 count hc d (i + 1) (acc ++ [s.extract 8 (8 + n)]) (s.extract (8 + n) s.size) (by omega) (by simp; omega) (by rw [← bytesOf_length, bytesOf_extract, List.length_drop, List.length_take, bytesOf_length]; omega)
    have e1 : bytesOf (s.extract (8 + n) s.size) = (bytesOf s).drop (8 + n) := by rw [bytesOf_extract, ← hl, List.take_length]
    have e2 : s.extract 8 (8 + n) = strOfNums (((bytesOf s).drop 8).take n) := by
      apply bytes_inj
      rw [bytes_str (byt_take (byt_drop (byt_bytesOf s) _) _), bytesOf_extract, List.drop_take]
      congr 1
      omega
    rw [e1] at ih
    cases hp : parts d ((bytesOf s).drop (8 + n)) with
    | none => rw [hp] at ih; exact ih
    | some ps => rw [hp, e2] at ih; rw [e2]; simpa using ih
theorem split_ev (s : ByteArray) : Ev (fun k => code_Split.f k s) (if s.size > 1048576 then ([], 3) else match splitL (bytesOf s) with | some ps => (ps.map strOfNums, 0) | none => ([], 4)) := by
  have hl := bytesOf_length s
  by_cases h0 : s.size > 1048576
  · rw [if_pos h0]; exact ev_pos (by omega) (Ev.now _)
  rw [if_neg h0]
  refine ev_neg (by omega) (ev_call (read_ev s) ?_)
  have bad : Ev (fun k => code_Split.j0 k s (if s.size < 8 then ((0, false) : Int × Bool) else (wrap64 (uv (bytesOf s)), true)).1 true) ([], 4) := Ev.step (fun _ => code_Split.j0.eq_2 ..) (ev_pos rfl (Ev.now _))
  unfold splitL
  by_cases h : s.size < 8
  · rw [if_pos h] at bad ⊢
    rw [if_pos (by omega)]
    exact ev_neg (by simp) bad
  rw [if_neg h] at bad ⊢
  rw [if_neg (by omega)]
  have hn := num8_uv (byt_bytesOf s) (by omega)
  refine ev_pos rfl ?_
  have no : ¬ (uv (bytesOf s) ≤ (s.size : Int) / 8) → parts (uv (bytesOf s)).toNat ((bytesOf s).drop 8) = none := fun c => by
    cases hp : parts (uv (bytesOf s)).toNat ((bytesOf s).drop 8) with
    | none => rfl
    | some ps =>
      have := parts_le _ _ ps (byt_drop (byt_bytesOf s) 8) hp
      rw [List.length_drop] at this
      omega
  by_cases h3 : wrap64 (uv (bytesOf s)) < 0
  · rw [no (by unfold wrap64 at h3; omega)]
    exact ev_pos h3 bad
  refine ev_neg h3 ?_
  rw [w64 (x := (s.size : Int) / 8) (by omega) (by omega)]
  by_cases h4 : wrap64 (uv (bytesOf s)) > (s.size : Int) / 8
  · rw [no (by unfold wrap64 at h3 h4; omega), show decide ((wrap64 (uv (bytesOf s)), true).1 > (s.size : Int) / 8) = true from decide_eq_true h4]
    exact bad
  rw [show decide ((wrap64 (uv (bytesOf s)), true).1 > (s.size : Int) / 8) = false from decide_eq_false h4]
  have hw : wrap64 (uv (bytesOf s)) = uv (bytesOf s) := by unfold wrap64 at h3 h4 ⊢; omega
  dsimp only
  rw [hw] at h4 ⊢
  obtain ⟨n, en⟩ := Int.eq_ofNat_of_zero_le hn.1
  rw [en] at h4 ⊢
  have hmn : 0 ≤ mn (n : Int) 4096 ∧ mn (n : Int) 4096 ≤ 4096 := by rw [mn_eq]; split <;> omega
  refine Ev.step (fun _ => code_Split.j0.eq_2 ..) (ev_neg (by simp) (ev_pos hmn.1 (ev_pos (by omega) (ev_pos (by omega) ?_))))
  have e1 : bytesOf (s.extract 8 s.size) = (bytesOf s).drop 8 := by rw [bytesOf_extract, ← hl, List.take_length]
  have := split_l0 n (by omega) n 0 [] (s.extract 8 s.size) (by omega) (by simp) (by rw [← bytesOf_length, e1, List.length_drop]; omega)
  rw [e1] at this
  simpa using this
theorem rsplit_l0 : ∀ (d : Nat) (acc : List ByteArray) (s : ByteArray), d ≤ 1099511627776 → acc.length + s.size ≤ 1048576 →
    ∃ q b, Ev (fun k => seicheref01_Split.l0 k s (d : Int) acc) (q, b) ∧ b = (parts d (bytesOf s)).isSome ∧ ∀ ps, parts d (bytesOf s) = some ps → q = acc ++ ps.map strOfNums
  | 0, acc, s, _, hs => by
    have hl := bytesOf_length s
    refine ⟨_, _, Ev.step (fun _ => seicheref01_Split.l0.eq_2 ..) (ev_neg (by omega) (Ev.now _)), ?_, fun ps h => ?_⟩
    · unfold parts
      by_cases h : s.size = 0
      · have e : s = ⟨#[]⟩ := bytes_inj (by rw [List.eq_nil_of_length_eq_zero (show (bytesOf s).length = 0 by omega)]; rfl)
        subst e
        simp [ba_toList, bytesOf]
      · rw [if_neg (by omega), Option.isSome_none, beq_eq_false_iff_ne]
        intro e
        rw [ba_toList] at e
        have e2 : s = ⟨#[]⟩ := ba_inj (by rw [ba_toList, e, ba_toList])
        exact h (by rw [e2]; rfl)
    · unfold parts at h
      split at h
      · injection h with h; subst h; simp
      · cases h
  | d + 1, acc, s, hd, hs => by
    have hl := bytesOf_length s
    obtain ⟨q, b, hq, hb, hv⟩ := rnumber_ev s
    unfold parts
    by_cases h : s.size < 8
    · rw [if_pos (by omega)]
      rw [decide_eq_false (by omega), Bool.false_and] at hb
      subst hb
      exact ⟨_, _, Ev.step (fun _ => seicheref01_Split.l0.eq_2 ..) (ev_pos (by omega) (ev_call hq (ev_neg (by simp) (Ev.now _)))), rfl, fun ps h => by cases h⟩
    rw [if_neg (by omega)]
    have hn := num8_uv (byt_bytesOf s) (by omega)
    by_cases h2 : (s.size : Int) - 8 < uv (bytesOf s)
    · rw [if_pos (by rw [hl]; exact h2)]
      by_cases h3 : uv (bytesOf s) ≤ 1099511627776
      · rw [decide_eq_true h3, decide_eq_true (by omega), Bool.true_and] at hb
        obtain rfl := hv hb
        clear hv
        subst hb
        exact ⟨_, _, Ev.step (fun _ => seicheref01_Split.l0.eq_2 ..) (ev_pos (by omega) (ev_call hq (ev_pos rfl (ev_pos (by show uv (bytesOf s) > wrap64 ((s.size : Int) - 8); rw [w64 (by omega) (by omega)]; omega) (Ev.now _))))), rfl, fun ps h => by cases h⟩
      · rw [decide_eq_false h3, Bool.and_false] at hb
        subst hb
        exact ⟨_, _, Ev.step (fun _ => seicheref01_Split.l0.eq_2 ..) (ev_pos (by omega) (ev_call hq (ev_neg (by simp) (Ev.now _)))), rfl, fun ps h => by cases h⟩
    rw [if_neg (by rw [hl]; exact h2)]
    rw [decide_eq_true (by omega : uv (bytesOf s) ≤ 1099511627776), decide_eq_true (by omega), Bool.true_and] at hb
    obtain rfl := hv hb
    clear hv
    subst hb
    obtain ⟨n, en⟩ := Int.eq_ofNat_of_zero_le hn.1
    have e1 : bytesOf (s.extract (8 + n) s.size) = (bytesOf s).drop (8 + n) := by rw [bytesOf_extract, ← hl, List.take_length]
    have e2 : s.extract 8 (8 + n) = strOfNums (((bytesOf s).drop 8).take n) := by
      apply bytes_inj
      rw [bytes_str (byt_take (byt_drop (byt_bytesOf s) _) _), bytesOf_extract, List.drop_take]
      congr 1
      omega
    rw [en] at h2 hq ⊢
    have hz : (s.extract (8 + n) s.size).size = s.size - (8 + n) := by rw [← bytesOf_length, e1, List.length_drop, hl]
    obtain ⟨q, b, h1, h3, h4⟩ := rsplit_l0 d (acc ++ [s.extract 8 (8 + n)]) (s.extract (8 + n) s.size) (by omega) (by simp only [List.length_append, List.length_singleton]; omega)
    rw [e1] at h3 h4
    rw [Int.toNat_natCast]
    refine ⟨q, b, Ev.step (fun _ => seicheref01_Split.l0.eq_2 ..) (ev_pos (by omega) (ev_call hq (ev_pos rfl ?_))), by rw [h3, Option.isSome_map], fun ps h => ?_⟩
    · dsimp only
      rw [w64 (x := (s.size : Int) - 8) (by omega) (by omega), w64 (x := 8 + (n : Int)) (by omega) (by omega), w64 (x := ((d + 1 : Nat) : Int) - 1) (by omega) (by omega), show (8 + (n : Int)).toNat = 8 + n by omega, show ((d + 1 : Nat) : Int) - 1 = (d : Int) by omega]
      exact ev_neg (by omega) (ev_pos (by omega) (ev_pos (by omega) (ev_pos (by omega) (ev_pos (by omega) h1))))
    · obtain ⟨qs, hqs, rfl⟩ := Option.map_eq_some_iff.1 h
      rw [h4 qs hqs, e2]
      simp
theorem rsplit_ev (s : ByteArray) (hs : s.size ≤ 1048576) : ∃ q b, Ev (fun k => seicheref01_Split.f k s) (q, b) ∧ b = (splitL (bytesOf s)).isSome ∧ ∀ ps, splitL (bytesOf s) = some ps → q = ps.map strOfNums := by
  have hl := bytesOf_length s
  obtain ⟨q, b, hq, hb, hv⟩ := rnumber_ev s
  unfold splitL
  by_cases h : s.size < 8
  · rw [if_pos (by omega)]
    rw [decide_eq_false (by omega), Bool.false_and] at hb
    subst hb
    exact ⟨_, _, ev_call hq (ev_neg (by simp) (Ev.now _)), rfl, fun ps h => by cases h⟩
  rw [if_neg (by omega)]
  have hn := num8_uv (byt_bytesOf s) (by omega)
  by_cases h3 : uv (bytesOf s) ≤ 1099511627776
  · rw [decide_eq_true h3, decide_eq_true (by omega), Bool.true_and] at hb
    obtain rfl := hv hb
    clear hv
    subst hb
    obtain ⟨n, en⟩ := Int.eq_ofNat_of_zero_le hn.1
    have e1 : bytesOf (s.extract 8 s.size) = (bytesOf s).drop 8 := by rw [bytesOf_extract, ← hl, List.take_length]
    have hz : (s.extract 8 s.size).size = s.size - 8 := by rw [← bytesOf_length, e1, List.length_drop, hl]
    obtain ⟨q, b, h1, h4, h5⟩ := rsplit_l0 n [] (s.extract 8 s.size) (by omega) (by simp only [List.length_nil]; omega)
    rw [e1] at h4 h5
    rw [en] at hq ⊢
    rw [Int.toNat_natCast]
    exact ⟨q, b, ev_call hq (ev_pos rfl (ev_pos (by omega) h1)), h4, fun ps h => by rw [h5 ps h]; simp⟩
  · rw [decide_eq_false h3, Bool.and_false] at hb
    subst hb
    have no : parts (uv (bytesOf s)).toNat ((bytesOf s).drop 8) = none := by
      cases hp : parts (uv (bytesOf s)).toNat ((bytesOf s).drop 8) with
      | none => rfl
      | some ps =>
        have := parts_le _ _ ps (byt_drop (byt_bytesOf s) 8) hp
        rw [List.length_drop] at this
        omega
    rw [no]
    exact ⟨_, _, ev_call hq (ev_neg (by simp) (Ev.now _)), rfl, fun ps h => by cases h⟩
end Go.Proofs.Ytomicnackfcgoaa.Fr
