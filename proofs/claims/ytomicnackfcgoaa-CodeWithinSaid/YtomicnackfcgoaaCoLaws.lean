/- The statements of chapter 1 over numbers and lists. -/
import Derived.Test.YtomicnackfcgoaaCoA
namespace Go.Proofs.Ytomicnackfcgoaa.Fr
open Go Go.RowKit Go.Proofs.Ytomicnackfcgoaa.PAll Go.Proofs.YtomicnackfcgoaaW.PrintWords Go.Proofs.YtomicnackfcgoaaW.PrintLast Go.Proofs.YtomicnackfcgoaaPw
def sizes : List ByteArray → Nat
  | [] => 0
  | s :: l => s.size + sizes l
theorem size_le {l : List ByteArray} {s : ByteArray} (h : s ∈ l) : s.size ≤ sizes l := by
  induction l with
  | nil => cases h
  | cons a l ih =>
    simp only [sizes]
    rcases List.mem_cons.1 h with rfl | h
    · omega
    · have := ih h; omega
theorem great_l0 (l : List ByteArray) (hl : l.length < 9223372036854775807) (hs : ∀ s ∈ l, s.size ≤ 140737488351232) : ∀ (d i n : Nat), i + d = l.length → n ≤ 16384 →
    ∃ b, Ev (fun k => seichelaw01_great.l0 k l (n : Int) l (l.length : Int) (i : Int)) b ∧ (b = false → n + sizes (l.drop i) ≤ 16384 ∧ l.length ≤ 200)
  | 0, i, n, hd, hn => ⟨decide ((l.length : Int) > 200), Ev.step (fun _ => seichelaw01_great.l0.eq_2 ..) (ev_neg (by omega) (Ev.now _)), fun h => by
      rw [List.drop_of_length_le (by omega)]
      have := of_decide_eq_false h
      simp only [sizes]
      omega⟩
  | d + 1, i, n, hd, hn => by
      have hm := hs _ (rdOf_mem ByteArray.empty l i (by omega))
      have e : wrap64 ((n : Int) + ((rdOf ByteArray.empty l (i : Int)).size : Int)) = ((n + (rdOf ByteArray.empty l (i : Int)).size : Nat) : Int) := by rw [w64 (by omega) (by omega)]; omega
      by_cases hc : n + (rdOf ByteArray.empty l (i : Int)).size > 16384
      · exact ⟨true, Ev.step (fun _ => seichelaw01_great.l0.eq_2 ..) (ev_pos (by omega) (ev_pos (by omega) (ev_pos (by omega) (ev_pos (by rw [e]; omega) (Ev.now _))))), fun h => by cases h⟩
      · obtain ⟨b, hb, hf⟩ := great_l0 l hl hs d (i + 1) (n + (rdOf ByteArray.empty l (i : Int)).size) (by omega) (by omega)
        refine ⟨b, Ev.step (fun _ => seichelaw01_great.l0.eq_2 ..) (ev_pos (by omega) (ev_pos (by omega) (ev_pos (by omega) (ev_neg (by rw [e]; omega) ?_)))), fun h => ?_⟩
        · rw [e, w64 (x := (i : Int) + 1) (by omega) (by omega)]
          exact hb
        · rw [drop_rdOf ByteArray.empty l i (by omega), sizes]
          have := hf h
          omega
theorem great_ev (l : List ByteArray) (h16 : l.length * 16 ≤ 140737488351232) (hs : ∀ s ∈ l, s.size ≤ 140737488351232) : ∃ b, Ev (fun k => seichelaw01_great.f k l) b ∧ (b = false → sizes l ≤ 16384 ∧ l.length ≤ 200) := by
  obtain ⟨b, h, hf⟩ := great_l0 l (by omega) hs l.length 0 0 (by omega) (by omega)
  exact ⟨b, h, fun e => by have := hf e; simpa using this⟩
theorem alive_ev : Ev (fun k => seichelaw01_alive.f k) true := Ev.of (fun k => seichelaw01_alive.mono k) (k := 100) (by kernel_rfl)
theorem map_str (l : List ByteArray) : (l.map bytesOf).map strOfNums = l := by
  rw [List.map_map]
  conv => rhs; rw [← List.map_id l]
  exact List.map_congr_left fun s _ => str_bytes s
def joinB (l : List ByteArray) : List Int := joinL (l.map bytesOf)
theorem byt_joinB (l : List ByteArray) : Byt (joinB l) := byt_join (fun p hp => by obtain ⟨s, _, rfl⟩ := List.mem_map.1 hp; exact byt_bytesOf s)
theorem sum_sizes (l : List ByteArray) : ((l.map bytesOf).map List.length).sum = sizes l := by
  induction l with
  | nil => rfl
  | cons s l ih => simp only [List.map_cons, List.sum_cons, ih, bytesOf_length, sizes]
theorem joinB_length (l : List ByteArray) : (joinB l).length = 8 + 8 * l.length + sizes l := by
  rw [joinB, joinL, List.length_append, num8_length, flat_length, sum_sizes, List.length_map]
  omega
theorem num_size (n : Int) : (strOfNums (num8 n)).size = 8 := by rw [strOfNums_size]; rfl
theorem join_l1 (l : List ByteArray) (hl : l.length < 1099511627776) : ∀ (d i : Nat) (acc : List Int), i + d = l.length → acc.length + 8 * d + sizes (l.drop i) ≤ 1099511627776 →
    Ev (fun k => code_Join.l1 k acc l (l.length : Int) (i : Int)) (strOfNums (acc ++ flat ((l.drop i).map bytesOf)))
  | 0, i, acc, hd, _ => Ev.step (fun _ => code_Join.l1.eq_2 ..) (ev_neg (by omega) (ev_ret (by rw [List.drop_of_length_le (by omega)]; simp [flat])))
  | d + 1, i, acc, hd, hb => by
    rw [drop_rdOf ByteArray.empty l i (by omega)] at hb ⊢
    refine Ev.step (fun _ => code_Join.l1.eq_2 ..) (ev_pos (by omega) (ev_pos (by omega) (ev_pos (by omega) (ev_call (ev_eq (num_eq _)) ?_))))
    generalize rdOf ByteArray.empty l (i : Int) = s at hb ⊢
    simp only [sizes] at hb
    refine ev_pos (by rw [num_size]; omega) (ev_some (ev_pos (by rw [List.length_append, bytesOf_length, num_size]; omega) ?_))
    rw [w64 (by omega) (by omega), bytes_str (byt_num8 _), List.map_cons, flat_cons, bytesOf_length]
    have := join_l1 l hl d (i + 1) (acc ++ num8 (s.size : Int) ++ bytesOf s) (by omega) (by rw [List.length_append, List.length_append, num8_length, bytesOf_length]; omega)
    simpa using this
theorem join_l0 (l : List ByteArray) (hl : l.length < 1099511627776) (hb : 8 * l.length + sizes l ≤ 549755813888) : ∀ (d i : Nat) (n : Nat), i + d = l.length → n + 8 * d + sizes (l.drop i) ≤ 1099511627776 →
    Ev (fun k => code_Join.l0 k l (n : Int) l (l.length : Int) (i : Int)) (strOfNums (joinB l))
  | 0, i, n, hd, hn => by
    refine Ev.step (fun _ => code_Join.l0.eq_2 ..) (ev_neg (by omega) (ev_pos (by omega) (ev_pos (by omega) (ev_some (ev_call (ev_eq (num_eq _)) (ev_pos (by rw [num_size]; simp) ?_))))))
    rw [bytes_str (byt_num8 _)]
    have := join_l1 l hl l.length 0 ([] ++ num8 (l.length : Int)) (by omega) (by rw [List.nil_append, num8_length, List.drop_zero]; omega)
    rw [joinB, joinL, List.length_map]
    simpa using this
  | d + 1, i, n, hd, hn => by
    rw [drop_rdOf ByteArray.empty l i (by omega)] at hn
    refine Ev.step (fun _ => code_Join.l0.eq_2 ..) (ev_pos (by omega) (ev_pos (by omega) (ev_pos (by omega) ?_)))
    generalize rdOf ByteArray.empty l (i : Int) = s at hn ⊢
    simp only [sizes] at hn
    rw [w64 (x := 8 + (s.size : Int)) (by omega) (by omega), w64 (x := (n : Int) + (8 + (s.size : Int))) (by omega) (by omega), w64 (x := (i : Int) + 1) (by omega) (by omega)]
    have := join_l0 l hl hb d (i + 1) (n + (8 + s.size)) (by omega) (by omega)
    rw [show ((n + (8 + s.size) : Nat) : Int) = (n : Int) + (8 + (s.size : Int)) by omega] at this
    exact this
theorem join_ev (l : List ByteArray) (hb : 8 * l.length + sizes l ≤ 549755813888) : Ev (fun k => code_Join.f k l) (strOfNums (joinB l)) :=
  join_l0 l (by omega) hb l.length 0 8 (by omega) (by rw [List.drop_zero]; omega)
def dig : Nat → Int → List Int
  | 0, _ => []
  | d + 1, u => dig d (u / 256) ++ [u % 256]
theorem rnum_l0 : ∀ (d : Nat) (j u : Int) (acc : List Int), 0 ≤ j → j + d = 8 → 0 ≤ u → u < 18446744073709551616 → acc.length + d ≤ 16 →
    Ev (fun k => seicheref01_Num.l0 k u (strOfNums acc) j) (strOfNums (dig d u ++ acc))
  | 0, j, u, acc, h0, h1, _, _, _ => Ev.step (fun _ => seicheref01_Num.l0.eq_2 ..) (ev_neg (by omega) (ev_ret rfl))
  | d + 1, j, u, acc, h0, h1, h2, h3, h4 => by
    refine Ev.step (fun _ => seicheref01_Num.l0.eq_2 ..) (ev_pos (by omega) (ev_some (ev_pos (by rw [strOfNums_size, strOfNums_size]; simp; omega) ?_)))
    rw [Int.tmod_eq_emod_of_nonneg h2, Int.tdiv_eq_ediv_of_nonneg h2, u64_id (n := u / 256) (by omega) (by omega), w64 (by omega) (by omega), ← strOfNums_append, show u % 256 % 256 = u % 256 by omega]
    have ih := rnum_l0 d (j + 1) (u / 256) ([u % 256] ++ acc) (by omega) (by omega) (by omega) (by omega) (by simp; omega)
    rw [dig, List.append_assoc]
    exact ih
theorem rnum_ev (n : Int) : Ev (fun k => seicheref01_Num.f k n) (strOfNums (num8 n)) := by
  have r := u64_range n
  have := rnum_l0 8 0 (IntKind.u64.wrap n) [] (by omega) (by omega) r.1 r.2 (by simp)
  have e : dig 8 (IntKind.u64.wrap n) ++ [] = num8 n := by
    simp only [dig, num8, List.nil_append, List.append_nil, List.cons_append]
    generalize IntKind.u64.wrap n = u at *
    rw [show u / 256 / 256 = u / 65536 by omega, show u / 65536 / 256 = u / 16777216 by omega, show u / 16777216 / 256 = u / 4294967296 by omega, show u / 4294967296 / 256 = u / 1099511627776 by omega, show u / 1099511627776 / 256 = u / 281474976710656 by omega, show u / 281474976710656 / 256 = u / 72057594037927936 by omega]
  rw [e] at this
  exact this
theorem rjoin_l0 (l : List ByteArray) (hl : l.length < 1099511627776) : ∀ (d i : Nat) (acc : List Int), i + d = l.length → acc.length + 8 * d + sizes (l.drop i) ≤ 1099511627776 →
    Ev (fun k => seicheref01_Join.l0 k (strOfNums acc) l (l.length : Int) (i : Int)) (strOfNums (acc ++ flat ((l.drop i).map bytesOf)))
  | 0, i, acc, hd, _ => Ev.step (fun _ => seicheref01_Join.l0.eq_2 ..) (ev_neg (by omega) (ev_ret (by rw [List.drop_of_length_le (by omega)]; simp [flat])))
  | d + 1, i, acc, hd, hb => by
    rw [drop_rdOf ByteArray.empty l i (by omega)] at hb ⊢
    refine Ev.step (fun _ => seicheref01_Join.l0.eq_2 ..) (ev_pos (by omega) (ev_pos (by omega) (ev_pos (by omega) (ev_call (rnum_ev _) ?_))))
    generalize rdOf ByteArray.empty l (i : Int) = s at hb ⊢
    simp only [sizes] at hb
    refine ev_pos (by rw [num_size, strOfNums_size]; omega) (ev_pos (by rw [← strOfNums_append, strOfNums_size, List.length_append, num8_length]; omega) ?_)
    rw [w64 (by omega) (by omega), List.map_cons, flat_cons, bytesOf_length]
    have := rjoin_l0 l hl d (i + 1) (acc ++ num8 (s.size : Int) ++ bytesOf s) (by omega) (by rw [List.length_append, List.length_append, num8_length, bytesOf_length]; omega)
    rw [strOfNums_append, strOfNums_append, str_bytes] at this
    simpa using this
theorem rjoin_ev (l : List ByteArray) (hb : 8 * l.length + sizes l ≤ 549755813888) : Ev (fun k => seicheref01_Join.f k l) (strOfNums (joinB l)) := by
  refine ev_call (rnum_ev _) ?_
  have := rjoin_l0 l (by omega) l.length 0 (num8 (l.length : Int)) (by omega) (by rw [num8_length, List.drop_zero]; omega)
  rw [joinB, joinL, List.length_map]
  simpa using this
theorem long_bytes {l : List ByteArray} (h : sizes l ≤ 1048576) : ∀ p ∈ l.map bytesOf, p.length < 9223372036854775808 := by
  intro p hp
  obtain ⟨s, hs, rfl⟩ := List.mem_map.1 hp
  have := size_le hs
  rw [bytesOf_length]
  omega
/-- WHAT WAS JOINED IS SPLIT INTO THE SAME. -/
theorem split_join (l : List ByteArray) (h : 8 + 8 * l.length + sizes l ≤ 1048576) : Ev (fun k => code_Split.f k (strOfNums (joinB l))) (l, 0) := by
  have := split_ev (strOfNums (joinB l))
  rw [strOfNums_size, joinB_length, if_neg (by omega), bytes_str (byt_joinB l)] at this
  have e := splitL_join (l.map bytesOf) (long_bytes (by omega)) (by rw [List.length_map]; omega) []
  rw [List.append_nil, List.length_nil, if_pos rfl] at e
  rw [show splitL (joinB l) = some (l.map bytesOf) from e] at this
  simpa [Function.comp_def, str_bytes] using this
theorem CodeJoins : seichelaw01_CodeJoins.Pure := by
  intro a0 a1 l2 hw0 hw1 _ h16 hs
  have h64 : -9223372036854775808 ≤ a0 ∧ a0 < 9223372036854775808 := by
    simp only [Lit.wf, IntKind.min, IntKind.max, IntKind.signed, IntKind.bits, Bool.and_eq_true, decide_eq_true_eq] at hw0
    simp at hw0
    omega
  obtain ⟨g, hg, hf⟩ := great_ev l2 h16 hs
  refine Ev.rounds (g := fun k => seichelaw01_CodeJoins.f k a0 a1 l2) (ev_call alive_ev (ev_pos rfl (ev_call hg ?_)))
  have done : Ev (fun k => seichelaw01_CodeJoins.j0 k a0 a1 l2 true) true := Ev.step (fun _ => seichelaw01_CodeJoins.j0.eq_2 ..) (ev_pos rfl (Ev.now _))
  by_cases c : g = true
  · exact ev_pos c done
  obtain ⟨h1, h2⟩ := hf (by simpa using c)
  refine ev_neg c ?_
  by_cases c1 : (a1.size : Int) > 16384
  · rw [decide_eq_true c1]; exact done
  rw [decide_eq_false c1]
  have last : Ev (fun k => seichelaw01_CodeJoins.j1 k a0 l2 false) true :=
    Ev.step (fun _ => seichelaw01_CodeJoins.j1.eq_2 ..) (ev_neg (by simp) (ev_call (ev_eq (num_eq _)) (ev_call (rnum_ev _) (ev_pos rfl (ev_call (join_ev l2 (by omega)) (ev_call (rjoin_ev l2 (by omega)) (ev_ret (by simp))))))))
  have e1 := read_ev (strOfNums (num8 a0) ++ a1)
  rw [if_neg (by rw [ByteArray.size_append, num_size]; omega), bytesOf_append, bytes_str (byt_num8 _), uv_num8, u64_back h64.1 h64.2] at e1
  refine Ev.step (fun _ => seichelaw01_CodeJoins.j0.eq_2 ..) (ev_neg (by simp) (ev_call (ev_eq (num_eq _)) (ev_pos (by rw [num_size]; omega) (ev_call e1 (ev_call (read_ev a1) (ev_neg (by simp) (ev_pos rfl ?_)))))))
  by_cases h8 : a1.size < 8
  · rw [if_pos h8]
    exact ev_neg (by simp; omega) (ev_neg (by simp) last)
  · rw [if_neg h8]
    have hn := num8_uv (byt_bytesOf a1) (by rw [bytesOf_length]; omega)
    refine ev_neg (by simp; omega) (ev_pos rfl (ev_call (ev_eq (num_eq _)) (ev_pos (by omega) (ev_pos (by omega) (ev_pos ?_ last)))))
    rw [ba_iff]
    apply bytes_inj
    rw [bytes_str (byt_num8 _), bytesOf_extract, List.drop_zero, ← hn.2.2]
    show num8 (wrap64 (uv (bytesOf a1))) = num8 (uv (bytesOf a1))
    unfold num8
    rw [u64_wrap64 hn.1 hn.2.1, u64_id hn.1 hn.2.1]
theorem CodeSplits : seichelaw01_CodeSplits.Pure := by
  intro a0 _
  refine Ev.rounds (g := fun k => seichelaw01_CodeSplits.f k a0) (ev_call alive_ev (ev_pos rfl ?_))
  by_cases c : (a0.size : Int) > 16384
  · exact ev_pos c (Ev.now _)
  obtain ⟨q, b, h1, h2, h3⟩ := rsplit_ev a0 (by omega)
  have h := split_ev a0
  rw [if_neg (by omega)] at h
  refine ev_neg c (ev_call h (ev_call h1 ?_))
  cases e : splitL (bytesOf a0) with
  | none =>
    rw [e] at h2
    subst h2
    exact ev_pos rfl (ev_neg (by simp) (ev_pos rfl (ev_ret rfl)))
  | some ps =>
    rw [e] at h2
    subst h2
    have hq := h3 ps e
    subst hq
    have hl : ps.length ≤ 16384 := by
      have hj := splitL_some (byt_bytesOf a0) e
      have := congrArg List.length hj
      rw [joinL, List.length_append, flat_length, bytesOf_length] at this
      omega
    exact ev_pos rfl (ev_pos rfl (ev_call (same_ev _ _ (by show (ps.map strOfNums).length < _; rw [List.length_map]; omega)) (ev_pos (by simp) (Ev.now _))))
theorem sum_le {p : List Int} : ∀ {ps : List (List Int)}, p ∈ ps → p.length ≤ (ps.map List.length).sum
  | q :: ps, h => by
    rw [List.map_cons, List.sum_cons]
    rcases List.mem_cons.1 h with rfl | h
    · omega
    · have := sum_le h; omega
theorem CodeBack : seichelaw01_CodeBack.Pure := by
  intro l0 _ h16 hs
  obtain ⟨g, hg, hf⟩ := great_ev l0 h16 hs
  refine Ev.rounds (g := fun k => seichelaw01_CodeBack.f k l0) (ev_call alive_ev (ev_pos rfl (ev_call hg ?_)))
  by_cases c : g = true
  · exact ev_pos c (Ev.now _)
  obtain ⟨h1, h2⟩ := hf (by simpa using c)
  have hj := joinB_length l0
  have hb := byt_joinB l0
  have hsp : ∀ t, splitL (joinB l0 ++ t) = if t.length = 0 then some (l0.map bytesOf) else none := fun t => splitL_join (l0.map bytesOf) (long_bytes (by omega)) (by rw [List.length_map]; omega) t
  have hz : (strOfNums (joinB l0)).size = 8 + 8 * l0.length + sizes l0 := by rw [strOfNums_size, hj]
  have e1 : bytesOf ((strOfNums (joinB l0)).extract 0 ((strOfNums (joinB l0)).size - 1)) = (joinB l0).take ((joinB l0).length - 1) := by rw [bytesOf_extract, bytes_str hb, List.drop_zero, strOfNums_size]
  have s1 := split_ev ((strOfNums (joinB l0)).extract 0 ((strOfNums (joinB l0)).size - 1))
  rw [if_neg (by rw [← bytesOf_length, e1, List.length_take]; omega), e1] at s1
  have n1 : splitL ((joinB l0).take ((joinB l0).length - 1)) = none := by
    cases e : splitL ((joinB l0).take ((joinB l0).length - 1)) with
    | none => rfl
    | some ps =>
      exfalso
      have hq := splitL_some (byt_take hb _) e
      have hpl : (flat ps).length ≤ 100000 := by
        have := congrArg List.length hq
        rw [joinL, List.length_append, List.length_take] at this
        omega
      have hpp : ∀ p ∈ ps, p.length < 9223372036854775808 := fun p hp => by
        have := sum_le hp
        rw [flat_length] at hpl
        omega
      have hd := List.take_append_drop ((joinB l0).length - 1) (joinB l0)
      have h3 := hsp []
      rw [List.append_nil, List.length_nil, if_pos rfl, ← hd, hq, splitL_join ps hpp (by rw [flat_length] at hpl; omega), if_neg (by rw [List.length_drop]; omega)] at h3
      cases h3
  rw [n1] at s1
  have s2 := split_ev (strOfNums (joinB l0) ++ (⟨#[120]⟩ : ByteArray))
  rw [if_neg (by rw [ByteArray.size_append, hz, show (⟨#[120]⟩ : ByteArray).size = 1 from rfl]; omega), bytesOf_append, bytes_str hb, hsp, if_neg (by rw [bytesOf_length]; decide)] at s2
  refine ev_neg c (ev_call (join_ev l0 (by omega)) (ev_call (split_join l0 (by omega)) ?_))
  rw [w64 (x := ((strOfNums (joinB l0)).size : Int) - 1) (by omega) (by omega), show (((strOfNums (joinB l0)).size : Int) - 1).toNat = (strOfNums (joinB l0)).size - 1 by omega]
  exact ev_pos (by omega) (ev_pos (by omega) (ev_call s1 (ev_pos (by omega) (ev_call s2 (ev_pos rfl (ev_call (same_ev _ _ (by show l0.length < _; omega)) (ev_pos (by simp) (ev_pos rfl (ev_ret rfl)))))))))
theorem CodeOne : seichelaw01_CodeOne.Pure := by
  intro a0 l1 l2 _ _ h16 hs _ h16' hs'
  refine Ev.rounds (g := fun k => seichelaw01_CodeOne.f k a0 l1 l2) (ev_call alive_ev (ev_pos rfl ?_))
  have done : Ev (fun k => seichelaw01_CodeOne.j0 k a0 l1 l2 true) true := Ev.step (fun _ => seichelaw01_CodeOne.j0.eq_2 ..) (ev_pos rfl (Ev.now _))
  by_cases c : (a0.size : Int) > 16384
  · exact ev_pos c done
  obtain ⟨g, hg, hf⟩ := great_ev l1 h16 hs
  obtain ⟨g', hg', hf'⟩ := great_ev l2 h16' hs'
  refine ev_neg c (ev_call hg ?_)
  by_cases c1 : g = true
  · exact ev_pos c1 done
  refine ev_neg c1 (ev_call hg' ?_)
  by_cases c2 : g' = true
  · rw [c2]; exact done
  obtain ⟨h1, h2⟩ := hf (by simpa using c1)
  obtain ⟨h3, h4⟩ := hf' (by simpa using c2)
  have last : Ev (fun k => seichelaw01_CodeOne.j1 k l1 l2 false) true := by
    refine Ev.step (fun _ => seichelaw01_CodeOne.j1.eq_2 ..) (ev_neg (by simp) (ev_call (join_ev l1 (by omega)) (ev_call (join_ev l2 (by omega)) (ev_call (same_ev _ _ (by omega)) (ev_ret ?_)))))
    rw [ba_beq, beq_iff_eq]
    congr 1
    rw [eq_iff_iff]
    refine ⟨fun e => ?_, fun e => by rw [e]⟩
    have e2 := congrArg bytesOf e
    rw [bytes_str (byt_joinB l1), bytes_str (byt_joinB l2)] at e2
    have a := splitL_join (l1.map bytesOf) (long_bytes (by omega)) (by rw [List.length_map]; omega) []
    have b := splitL_join (l2.map bytesOf) (long_bytes (by omega)) (by rw [List.length_map]; omega) []
    rw [List.append_nil, List.length_nil, if_pos rfl] at a b
    rw [show joinL (l1.map bytesOf) = joinL (l2.map bytesOf) from e2] at a
    rw [a] at b
    have e3 := congrArg (List.map strOfNums) (Option.some.inj b)
    rwa [map_str, map_str] at e3
  have h := split_ev a0
  rw [if_neg (by omega)] at h
  rw [show g' = false by simpa using c2]
  refine Ev.step (fun _ => seichelaw01_CodeOne.j0.eq_2 ..) (ev_neg (by simp) (ev_call h ?_))
  cases e : splitL (bytesOf a0) with
  | none => exact ev_neg (by simp) last
  | some ps =>
    have hj := splitL_some (byt_bytesOf a0) e
    have hl := congrArg List.length hj
    rw [joinL, List.length_append, num8_length, flat_length, bytesOf_length] at hl
    have hby : ∀ p ∈ ps, Byt p := fun p hp x hx => byt_bytesOf a0 x (by
      rw [hj, joinL]
      exact List.mem_append_right _ (List.mem_flatMap.2 ⟨p, hp, List.mem_append_right _ hx⟩))
    have hback : (ps.map strOfNums).map bytesOf = ps := by
      rw [List.map_map]
      conv => rhs; rw [← List.map_id ps]
      exact List.map_congr_left fun p hp => bytes_str (hby p hp)
    have hsz : sizes (ps.map strOfNums) = (ps.map List.length).sum := by rw [← sum_sizes, hback]
    refine ev_pos rfl (ev_call (join_ev (ps.map strOfNums) (by rw [hsz, List.length_map]; omega)) ?_)
    have e3 : ((strOfNums (joinB (ps.map strOfNums))).toList != a0.toList) = false := by
      rw [joinB, hback, ← hj, str_bytes]
      simp
    rw [e3]
    exact last
theorem CodeLong : seichelaw01_CodeLong.Pure := by
  intro a0 hw
  refine Ev.rounds (g := fun k => seichelaw01_CodeLong.f k a0) (ev_call alive_ev (ev_pos rfl ?_))
  by_cases c : a0 < (-3)
  · exact ev_pos c (Ev.step (fun _ => seichelaw01_CodeLong.j0.eq_2 ..) (ev_pos rfl (Ev.now _)))
  refine ev_neg c (Ev.step (fun _ => seichelaw01_CodeLong.j0.eq_2 ..) ?_)
  by_cases c2 : a0 > 3
  · exact ev_pos (decide_eq_true c2) (Ev.now _)
  refine ev_neg (by simpa using c2) ?_
  rw [w64 (x := 1048560 + a0) (by omega) (by omega)]
  refine ev_pos (by omega) (ev_pos (by omega) ?_)
  have hz : (strOfNums (List.replicate (1048560 + a0).toNat 0)).size = (1048560 + a0).toNat := by rw [strOfNums_size, List.length_replicate]
  generalize strOfNums (List.replicate (1048560 + a0).toNat 0) = z at hz
  have hs1 : sizes [z] = z.size := by simp [sizes]
  have hj := joinB_length [z]
  rw [hs1, List.length_singleton] at hj
  refine ev_call (join_ev [z] (by rw [hs1, List.length_singleton]; omega)) ?_
  by_cases c3 : a0 > 0
  · have h := split_ev (strOfNums (joinB [z]))
    rw [if_pos (by rw [strOfNums_size]; omega)] at h
    exact ev_call h (ev_pos c3 (ev_pos rfl (ev_ret rfl)))
  · refine ev_call (split_join [z] (by rw [hs1, List.length_singleton]; omega)) (ev_neg c3 (ev_pos rfl (ev_pos rfl (ev_pos (by simp) (ev_ret ?_)))))
    simp only [rdOf]
    simp
    omega
theorem CodeWithin : seichelaw01_CodeWithin.Pure := by
  intro l1 l2 _ h16 hs _ h16' hs'
  obtain ⟨g, hg, hf⟩ := great_ev l1 h16 hs
  obtain ⟨g', hg', hf'⟩ := great_ev l2 h16' hs'
  refine Ev.rounds (g := fun k => seichelaw01_CodeWithin.f k l1 l2) (ev_call alive_ev (ev_pos rfl (ev_call hg ?_)))
  have done : Ev (fun k => seichelaw01_CodeWithin.j0 k l1 l2 true) true := Ev.step (fun _ => seichelaw01_CodeWithin.j0.eq_2 ..) (ev_pos rfl (Ev.now _))
  by_cases c1 : g = true
  · exact ev_pos c1 done
  refine ev_neg c1 (ev_call hg' ?_)
  by_cases c2 : g' = true
  · rw [c2]; exact done
  obtain ⟨h1, h2⟩ := hf (by simpa using c1)
  obtain ⟨h3, h4⟩ := hf' (by simpa using c2)
  rw [show g' = false by simpa using c2]
  have hz : sizes [strOfNums (joinB l1), strOfNums (joinB l2)] = (8 + 8 * l1.length + sizes l1) + (8 + 8 * l2.length + sizes l2) := by
    simp only [sizes, strOfNums_size, joinB_length]
    omega
  refine Ev.step (fun _ => seichelaw01_CodeWithin.j0.eq_2 ..) (ev_neg (by simp) (ev_call (join_ev l1 (by omega)) (ev_call (join_ev l2 (by omega)) (ev_call (join_ev _ (by rw [hz]; simp only [List.length_cons, List.length_nil]; omega)) (ev_call (split_join _ (by rw [hz]; simp only [List.length_cons, List.length_nil]; omega)) (ev_pos rfl ?_))))))
  refine Ev.step (fun _ => seichelaw01_CodeWithin.j1.eq_2 ..) (ev_neg (by simp) (ev_pos (by simp) (ev_call (split_join l1 (by omega)) (ev_pos (by simp) (ev_call (split_join l2 (by omega)) (ev_pos rfl (ev_pos rfl (ev_call (same_ev _ _ (by show l1.length < _; omega)) (ev_pos (by simp) (ev_call (same_ev _ _ (by show l2.length < _; omega)) (ev_ret (by simp))))))))))))
end Go.Proofs.Ytomicnackfcgoaa.Fr
