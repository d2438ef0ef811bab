/- Chapter 15 in plain Lean: names made of parts; the other three laws. -/
import Derived.Test.YtnpbgegllphfkaaDoorSuC
namespace Go.Proofs.YtnpbgegllphfkaaDoor.Su
open Go Go.RowKit Go.Proofs.YtnpbgegllphfkaaDoorW.PrintWords Go.Proofs.YtnpbgegllphfkaaDoorPw Go.Proofs.YtnpbgegllphfkaaDoor.PAll Go.Proofs.YtnpbgegllphfkaaDoor
/-! SuffixKnows -/
theorem lit_eq {s : ByteArray} {d : Array UInt8} (h : s.toList = d.toList) : s = ⟨d⟩ := ba_inj (h.trans (ba_toList _).symm)
theorem beq_lit (s : ByteArray) (d : Array UInt8) : (s.toList == d.toList) = Lib.containsS [⟨d⟩] s := by
  rw [Bool.eq_iff_iff, beq_iff_eq, Lib.containsS_iff, List.mem_singleton]
  exact ⟨lit_eq, fun h => by rw [h, ba_toList]⟩
theorem alike_sub (s : ByteArray) (h : Lib.containsS alikeL s = true) : sysB s = true := by
  rw [Lib.containsS_iff] at h
  have : alikeL.all sysB = true := by decide
  exact List.all_eq_true.1 this s h
theorem alike_none (s : ByteArray) (h : s ∈ [(⟨#[106, 115]⟩ : ByteArray), ⟨#[112, 108, 97, 110, 57]⟩, ⟨#[119, 97, 115, 105, 112, 49]⟩, ⟨#[119, 105, 110, 100, 111, 119, 115]⟩]) : Lib.containsS alikeL s = false := by
  have : [(⟨#[106, 115]⟩ : ByteArray), ⟨#[112, 108, 97, 110, 57]⟩, ⟨#[119, 97, 115, 105, 112, 49]⟩, ⟨#[119, 105, 110, 100, 111, 119, 115]⟩].all (fun s => !Lib.containsS alikeL s) = true := by decide
  simpa using List.all_eq_true.1 this s h
theorem alike_else (s : ByteArray) (h : sysB s = true) : Lib.containsS alikeL s = true ∨ s ∈ [(⟨#[106, 115]⟩ : ByteArray), ⟨#[112, 108, 97, 110, 57]⟩, ⟨#[119, 97, 115, 105, 112, 49]⟩, ⟨#[119, 105, 110, 100, 111, 119, 115]⟩] := by
  have h' : s ∈ sysL := (Lib.containsS_iff _ _).1 h
  have : sysL.all (fun s => Lib.containsS alikeL s || Lib.containsS [(⟨#[106, 115]⟩ : ByteArray), ⟨#[112, 108, 97, 110, 57]⟩, ⟨#[119, 97, 115, 105, 112, 49]⟩, ⟨#[119, 105, 110, 100, 111, 119, 115]⟩] s) = true := by decide
  have := List.all_eq_true.1 this s h'
  rw [Bool.or_eq_true, Lib.containsS_iff _ s] at this
  rcases this with h | h
  · exact .inl ((Lib.containsS_iff _ _).2 h)
  · exact .inr ((Lib.containsS_iff _ _).1 h)
theorem runix_ev (s : ByteArray) : Ev (fun k => seicheref15_Unix.f k s) (Lib.containsS alikeL s) := by
  refine ev_call (rsys_ev s) ?_
  by_cases h : sysB s = true
  · refine ev_pos h ?_
    by_cases h1 : s.toList = ([106, 115] : List UInt8)
    · exact ev_pos h1 (ev_ret (alike_none s (by rw [lit_eq (d := #[106, 115]) h1]; simp)).symm)
    refine ev_neg h1 ?_
    by_cases h2 : s.toList = ([112, 108, 97, 110, 57] : List UInt8)
    · exact ev_pos h2 (ev_ret (alike_none s (by rw [lit_eq (d := #[112, 108, 97, 110, 57]) h2]; simp)).symm)
    refine ev_neg h2 ?_
    by_cases h3 : s.toList = ([119, 97, 115, 105, 112, 49] : List UInt8)
    · exact ev_pos h3 (ev_ret (alike_none s (by rw [lit_eq (d := #[119, 97, 115, 105, 112, 49]) h3]; simp)).symm)
    refine ev_neg h3 (ev_ret ?_)
    by_cases h4 : s.toList = ([119, 105, 110, 100, 111, 119, 115] : List UInt8)
    · rw [alike_none s (by rw [lit_eq (d := #[119, 105, 110, 100, 111, 119, 115]) h4]; simp)]
      exact bne_eq_false_iff_eq.2 h4
    · rcases alike_else s h with h5 | h5
      · rw [h5]
        exact bne_iff_ne.2 h4
      · simp only [List.mem_cons, List.not_mem_nil, or_false] at h5
        rcases h5 with h5 | h5 | h5 | h5
        · exact absurd (by rw [h5, ba_toList]) h1
        · exact absurd (by rw [h5, ba_toList]) h2
        · exact absurd (by rw [h5, ba_toList]) h3
        · exact absurd (by rw [h5, ba_toList]) h4
  · refine ev_neg h (ev_ret ?_)
    cases e : Lib.containsS alikeL s with
    | false => rfl
    | true => exact absurd (alike_sub s e) h
def hid (s : ByteArray) : Bool := begI (bytesOf s) 95 || begI (bytesOf s) 46 || (s.toList == ([116, 101, 115, 116, 100, 97, 116, 97] : List UInt8))
theorem hidden_f (s : ByteArray) (hs : s.size ≤ 65536) : suffix_Hidden.f s = some (hid s) := by
  have hp1 : strings_HasPrefix.f s ⟨#[95]⟩ = some (begI (bytesOf s) 95) := hasPrefix_f s ⟨#[95]⟩ 95 rfl rfl (by omega)
  have hp2 : strings_HasPrefix.f s ⟨#[46]⟩ = some (begI (bytesOf s) 46) := hasPrefix_f s ⟨#[46]⟩ 46 rfl rfl (by omega)
  unfold suffix_Hidden.f hid
  simp only [hp1, hp2, Option.bind_some]
  cases begI (bytesOf s) 95 <;> cases begI (bytesOf s) 46 <;> simp
theorem rhidden_f (s : ByteArray) : seicheref15_Hidden.f s = some (hid s) := by
  unfold seicheref15_Hidden.f hid
  by_cases h1 : s.toList = ([116, 101, 115, 116, 100, 97, 116, 97] : List UInt8)
  · rw [if_pos h1, beq_iff_eq.2 h1, Bool.or_true]
  · rw [if_neg h1, beq_eq_false_iff_ne.2 h1, Bool.or_false]
    by_cases h2 : s.toList = ([] : List UInt8)
    · rw [if_pos h2]
      have : bytesOf s = [] := by
        rw [ba_toList] at h2
        rw [bytesOf, h2]
        rfl
      rw [this]
      rfl
    · have h0 : 0 < s.size := by
        rcases Nat.eq_zero_or_pos s.size with h | h
        · exact absurd (by
            rw [ba_toList]
            exact List.eq_nil_of_length_eq_zero h) h2
        · exact h
      rw [if_neg h2, if_pos (by omega), begI_bt s h0, begI_bt s h0]
      by_cases h3 : bt s 0 = 95
      · rw [if_pos h3, beq_iff_eq.2 h3, Bool.true_or]
      · rw [if_neg h3, beq_eq_false_iff_ne.2 h3, Bool.false_or]
theorem SuffixKnows_ev (s : ByteArray) : Ev (fun k => seichelaw15_SuffixKnows.f k s) true := by
  refine ev_call alive_ev (ev_pos rfl ?_)
  by_cases h : s.size ≤ 1024
  · have hu : suffix_Unix.f s = some (Lib.containsS alikeL s) := rfl
    refine ev_neg (by omega) ?_
    simp only [sys_f, proc_f, hu, hidden_f s (by omega), rhidden_f, Option.bind_some]
    exact ev_call (rsys_ev s) (ev_pos (by simp) (ev_call (rproc_ev s) (ev_pos (by simp) (ev_call (runix_ev s) (ev_pos (by simp) (ev_ret (by simp)))))))
  · exact ev_pos (by omega) (Ev.now true)
/-! Names made of parts -/
theorem ends_app (x p : List Int) : endsI (x ++ p) p = true := (endsI_iff _ _).2 ⟨x, rfl⟩
theorem less_app (x p : List Int) : less (x ++ p) p = x := by rw [less, if_pos (ends_app x p)]; simp
theorem beg_app (x y : List Int) (c : Int) (h : x ≠ []) : begI (x ++ y) c = begI x c := by
  cases x with
  | nil => exact absurd rfl h
  | cons a x => rfl
theorem of_go (y : List Int) (h0 : y ≠ []) (h1 : begI y 95 = false) (h2 : begI y 46 = false) (h3 : endsI y testE = false) : ofSpec (y ++ goE) = (true, false, wordsSpec ((cutI 95 y).map strOfNums)) := by
  unfold ofSpec good
  rw [ends_app, beg_app _ _ _ h0, beg_app _ _ _ h0, h1, h2, if_pos (show (true && !false && !false) = true from rfl), less_app, h3, less, if_neg (by rw [h3]; decide)]
theorem of_test (y : List Int) (h0 : y ≠ []) (h1 : begI y 95 = false) (h2 : begI y 46 = false) : ofSpec (y ++ (testE ++ goE)) = (true, true, wordsSpec ((cutI 95 y).map strOfNums)) := by
  unfold ofSpec good
  have h0' : y ++ testE ≠ [] := by simp
  rw [← List.append_assoc, ends_app, beg_app _ _ _ h0', beg_app _ _ _ h0', beg_app _ _ _ h0, beg_app _ _ _ h0, h1, h2, if_pos (show (true && !false && !false) = true from rfl), less_app, ends_app, less_app]
theorem of_bad (y : List Int) (h : begI y 95 = true ∨ begI y 46 = true) : ofSpec y = (false, false, E0, E0) := by
  unfold ofSpec good
  rcases h with h | h <;> simp [h]
theorem SuffixTests_ev (s : ByteArray) : Ev (fun k => seichelaw15_SuffixTests.f k s) true := by
  refine ev_call alive_ev (ev_pos rfl ?_)
  have hskip : Ev (fun k => seichelaw15_SuffixTests.j0 k s true) true := Ev.step (fun _ => seichelaw15_SuffixTests.j0.eq_2 ..) (ev_pos rfl (Ev.now true))
  by_cases h : s.size ≤ 512
  · refine ev_neg (by omega) ?_
    have hE : seicheref15_Ends.f s ⟨#[95, 116, 101, 115, 116]⟩ = some (endsI (bytesOf s) testE) := ends_f s ⟨#[95, 116, 101, 115, 116]⟩ (by omega)
    simp only [hE, Option.bind_some]
    cases ht : endsI (bytesOf s) testE with
    | true => exact hskip
    | false =>
      have z1 : (s ++ (⟨#[46, 103, 111]⟩ : ByteArray)).size = s.size + 3 := by rw [ByteArray.size_append]; rfl
      have z2 : (s ++ (⟨#[95, 116, 101, 115, 116, 46, 103, 111]⟩ : ByteArray)).size = s.size + 8 := by rw [ByteArray.size_append]; rfl
      have o1 := of_ev (s ++ (⟨#[46, 103, 111]⟩ : ByteArray)) (by omega)
      have o2 := of_ev (s ++ (⟨#[95, 116, 101, 115, 116, 46, 103, 111]⟩ : ByteArray)) (by omega)
      rw [bytesOf_append, show bytesOf (⟨#[46, 103, 111]⟩ : ByteArray) = goE from rfl] at o1
      rw [bytesOf_append, show bytesOf (⟨#[95, 116, 101, 115, 116, 46, 103, 111]⟩ : ByteArray) = testE ++ goE from rfl] at o2
      refine Ev.step (fun _ => seichelaw15_SuffixTests.j0.eq_2 ..) (ev_neg (by decide) (ev_pos (by omega) (ev_call o1 (ev_pos (by omega) (ev_call o2 ?_)))))
      by_cases h0 : bytesOf s = []
      · have hs0 : s.toList = ([] : List UInt8) := by
          rw [ba_toList]
          exact List.map_eq_nil_iff.1 h0
        rw [h0, of_bad ([] ++ goE) (.inr rfl), of_bad ([] ++ (testE ++ goE)) (.inl rfl)]
        exact ev_neg (by decide) (ev_neg (by decide) (Ev.now true))
      · by_cases hb : begI (bytesOf s) 95 = true ∨ begI (bytesOf s) 46 = true
        · rw [of_bad (bytesOf s ++ goE) (by rw [beg_app _ _ _ h0, beg_app _ _ _ h0]; exact hb), of_bad (bytesOf s ++ (testE ++ goE)) (by rw [beg_app _ _ _ h0, beg_app _ _ _ h0]; exact hb)]
          exact ev_neg (by decide) (ev_neg (by decide) (Ev.now true))
        · have b1 : begI (bytesOf s) 95 = false := by simpa using fun e => hb (.inl e)
          have b2 : begI (bytesOf s) 46 = false := by simpa using fun e => hb (.inr e)
          rw [of_go _ h0 b1 b2 ht, of_test _ h0 b1 b2]
          exact ev_pos rfl (ev_ret (by simp))
  · refine ev_pos (by omega) hskip
/-! SuffixTells -/
theorem cut_parts (x : List Int) (O : List Int) (hO : ∀ z ∈ O, z ≠ 95) : (cutI 95 (x ++ 95 :: O)) = cutI 95 x ++ [O] := by rw [cutI_app, cutI_none 95 O hO]
theorem not_test (x A : List Int) (hA : ∀ z ∈ A, z ≠ 95) (hne : A ≠ [116, 101, 115, 116]) : endsI (x ++ 95 :: A) testE = false := by
  cases h : endsI (x ++ 95 :: A) testE with
  | false => rfl
  | true =>
    obtain ⟨t, e⟩ := (endsI_iff _ _).1 h
    have e1 := congrArg (cutI 95) e
    rw [cut_parts x A hA, cut_parts t [116, 101, 115, 116] (by decide)] at e1
    have := (List.append_inj' e1 rfl).2
    simp at this
    exact absurd this hne
theorem last1_snoc (ws : List ByteArray) (a : ByteArray) : last1 (ws ++ [a]) = a := by
  simp [last1, rdOf, List.getD_eq_getElem?_getD]
theorem last2_snoc (ws : List ByteArray) (o a : ByteArray) : last2 (ws ++ [o] ++ [a]) = o := by
  simp [last2, rdOf, List.getD_eq_getElem?_getD]
theorem last2_one (ws : List ByteArray) (a : ByteArray) (h : 1 ≤ ws.length) : last2 (ws ++ [a]) = last1 ws := by
  simp only [last1, last2, rdOf, List.getD_eq_getElem?_getD, Int.toNat_natCast, List.length_append, List.length_singleton]
  rw [List.getElem?_append_left (by omega)]
  rfl
theorem words_both (ws : List ByteArray) (o a : ByteArray) (hw : 1 ≤ ws.length) (ho : sysB o = true) (ha : procB a = true) : wordsSpec (ws ++ [o] ++ [a]) = (o, a) := by
  unfold wordsSpec
  rw [last1_snoc, last2_snoc, if_pos ⟨by simp; omega, ho, ha⟩]
theorem words_sys (ws : List ByteArray) (o : ByteArray) (hw : 1 ≤ ws.length) (ho : sysB o = true) (hp : procB o = false) : wordsSpec (ws ++ [o]) = (o, E0) := by
  unfold wordsSpec
  rw [last1_snoc, if_neg (fun h => by rw [hp] at h; exact absurd h.2.2 (by decide)), if_pos ⟨by simp; omega, ho⟩]
theorem words_proc (ws : List ByteArray) (a : ByteArray) (hw : 1 ≤ ws.length) (ha : procB a = true) (hs : sysB a = false) (hl : ws.length = 1 ∨ sysB (last1 ws) = false) : wordsSpec (ws ++ [a]) = (E0, a) := by
  unfold wordsSpec
  rw [last1_snoc, last2_one ws a hw, if_neg, if_neg (fun h => by rw [hs] at h; exact absurd h.2 (by decide)), if_pos ⟨by simp; omega, ha⟩]
  intro h
  rcases hl with hl | hl
  · have := h.1
    simp at this
    omega
  · rw [hl] at h
    exact absurd h.2.1 (by decide)
def okWord (o : ByteArray) : Bool := (bytesOf o).all (fun z => z != 95) && decide (bytesOf o ≠ [116, 101, 115, 116]) && decide (o.size ≤ 20)
theorem ok_word {o : ByteArray} (h : okWord o = true) : (∀ z ∈ bytesOf o, z ≠ 95) ∧ bytesOf o ≠ [116, 101, 115, 116] ∧ o.size ≤ 20 := by
  unfold okWord at h
  simp only [Bool.and_eq_true, List.all_eq_true, bne_iff_ne, decide_eq_true_eq] at h
  exact ⟨h.1.1, h.1.2, h.2⟩
theorem sys_ok (o : ByteArray) (h : o ∈ sysL) : okWord o = true ∧ sysB o = true ∧ procB o = false := by
  have : sysL.all (fun o => okWord o && !procB o) = true := by decide
  have := List.all_eq_true.1 this o h
  simp only [Bool.and_eq_true, Bool.not_eq_true'] at this
  exact ⟨this.1, (Lib.containsS_iff _ _).2 h, this.2⟩
theorem proc_ok (o : ByteArray) (h : o ∈ procL) : okWord o = true ∧ procB o = true ∧ sysB o = false := by
  have : procL.all (fun o => okWord o && !sysB o) = true := by decide
  have := List.all_eq_true.1 this o h
  simp only [Bool.and_eq_true, Bool.not_eq_true'] at this
  exact ⟨this.1, (Lib.containsS_iff _ _).2 h, this.2⟩
def endOf (t : Bool) : ByteArray := if t then ⟨#[95, 116, 101, 115, 116, 46, 103, 111]⟩ else ⟨#[46, 103, 111]⟩
theorem of_end (y : List Int) (t : Bool) (h0 : y ≠ []) (h1 : begI y 95 = false) (h2 : begI y 46 = false) (h3 : endsI y testE = false) : ofSpec (y ++ bytesOf (endOf t)) = (true, t, wordsSpec ((cutI 95 y).map strOfNums)) := by
  cases t with
  | false => exact of_go y h0 h1 h2 h3
  | true => exact of_test y h0 h1 h2
theorem tells_j1 (s o a : ByteArray) (t : Bool) (hs : s.size ≤ 512) (h0 : bytesOf s ≠ []) (h1 : begI (bytesOf s) 95 = false) (h2 : begI (bytesOf s) 46 = false) (ho : o ∈ sysL) (ha : a ∈ procL) :
    Ev (fun k => seichelaw15_SuffixTells.j1 k s t o a (endOf t)) true := by
  obtain ⟨ho1, ho2, ho3⟩ := sys_ok o ho
  obtain ⟨ha1, ha2, ha3⟩ := proc_ok a ha
  obtain ⟨p1, p2, p3⟩ := ok_word ho1
  obtain ⟨q1, q2, q3⟩ := ok_word ha1
  have hz1 : (⟨#[95]⟩ : ByteArray).size = 1 := rfl
  have hz2 : (endOf t).size ≤ 8 := by cases t <;> decide
  have hu : bytesOf (⟨#[95]⟩ : ByteArray) = [95] := rfl
  have hcl := cutI_length 95 (bytesOf s)
  have hw1 : 1 ≤ ((cutI 95 (bytesOf s)).map strOfNums).length := by rw [List.length_map]; exact hcl.1
  have hne : ∀ y : List Int, bytesOf s ++ y ≠ [] := fun y h => h0 (List.append_eq_nil_iff.1 h).1
  -- the three names
  have n1 : Ev (fun k => suffix_Of.f k (((((s ++ (⟨#[95]⟩ : ByteArray)) ++ o) ++ (⟨#[95]⟩ : ByteArray)) ++ a) ++ endOf t)) (true, t, o, a) := by
    refine (congrArg (Ev _) ?_).mpr (of_ev (((((s ++ (⟨#[95]⟩ : ByteArray)) ++ o) ++ (⟨#[95]⟩ : ByteArray)) ++ a) ++ endOf t) (by simp only [ByteArray.size_append]; omega))
    rw [bytesOf_append, bytesOf_append, bytesOf_append, bytesOf_append, bytesOf_append, hu]
    have e : (((bytesOf s ++ [95]) ++ bytesOf o) ++ [95]) ++ bytesOf a = (bytesOf s ++ 95 :: bytesOf o) ++ 95 :: bytesOf a := by simp
    rw [e, of_end _ t (by rw [List.append_assoc]; exact hne _) (by rw [List.append_assoc, beg_app _ _ _ h0]; exact h1) (by rw [List.append_assoc, beg_app _ _ _ h0]; exact h2) (not_test _ _ q1 q2), cut_parts _ _ q1, cut_parts _ _ p1]
    rw [List.map_append, List.map_append, List.map_singleton, List.map_singleton, str_bytes, str_bytes, words_both _ _ _ hw1 ho2 ha2]
  have n2 : Ev (fun k => suffix_Of.f k (((s ++ (⟨#[95]⟩ : ByteArray)) ++ o) ++ endOf t)) (true, t, o, E0) := by
    refine (congrArg (Ev _) ?_).mpr (of_ev (((s ++ (⟨#[95]⟩ : ByteArray)) ++ o) ++ endOf t) (by simp only [ByteArray.size_append]; omega))
    rw [bytesOf_append, bytesOf_append, bytesOf_append, hu]
    have e : (bytesOf s ++ [95]) ++ bytesOf o = bytesOf s ++ 95 :: bytesOf o := by simp
    rw [e, of_end _ t (hne _) (by rw [beg_app _ _ _ h0]; exact h1) (by rw [beg_app _ _ _ h0]; exact h2) (not_test _ _ p1 p2), cut_parts _ _ p1]
    rw [List.map_append, List.map_singleton, str_bytes, words_sys _ _ hw1 ho2 ho3]
  have n3 : (((cutI 95 (bytesOf s)).map strOfNums).length = 1 ∨ sysB (last1 ((cutI 95 (bytesOf s)).map strOfNums)) = false) → Ev (fun k => suffix_Of.f k (((s ++ (⟨#[95]⟩ : ByteArray)) ++ a) ++ endOf t)) (true, t, E0, a) := fun hl => by
    refine (congrArg (Ev _) ?_).mpr (of_ev (((s ++ (⟨#[95]⟩ : ByteArray)) ++ a) ++ endOf t) (by simp only [ByteArray.size_append]; omega))
    rw [bytesOf_append, bytesOf_append, bytesOf_append, hu]
    have e : (bytesOf s ++ [95]) ++ bytesOf a = bytesOf s ++ 95 :: bytesOf a := by simp
    rw [e, of_end _ t (hne _) (by rw [beg_app _ _ _ h0]; exact h1) (by rw [beg_app _ _ _ h0]; exact h2) (not_test _ _ q1 q2), cut_parts _ _ q1]
    rw [List.map_append, List.map_singleton, str_bytes, words_proc _ _ hw1 ha2 ha3 hl]
  refine Ev.step (fun _ => seichelaw15_SuffixTells.j1.eq_2 ..) (ev_call (cut_ev s 95 (by omega)) ?_)
  generalize hW : (cutI 95 (bytesOf s)).map strOfNums = W at *
  have hWl : W.length ≤ 513 := by rw [← hW, List.length_map]; rw [bytesOf_length] at hcl; omega
  have z1 : (s ++ (⟨#[95]⟩ : ByteArray)).size = s.size + 1 := by rw [ByteArray.size_append, hz1]
  have z2 : ((s ++ (⟨#[95]⟩ : ByteArray)) ++ o).size = s.size + 1 + o.size := by rw [ByteArray.size_append, z1]
  have z3 : (((s ++ (⟨#[95]⟩ : ByteArray)) ++ o) ++ (⟨#[95]⟩ : ByteArray)).size = s.size + 1 + o.size + 1 := by rw [ByteArray.size_append, z2, hz1]
  have z4 : ((((s ++ (⟨#[95]⟩ : ByteArray)) ++ o) ++ (⟨#[95]⟩ : ByteArray)) ++ a).size = s.size + 1 + o.size + 1 + a.size := by rw [ByteArray.size_append, z3]
  have z5 : ((s ++ (⟨#[95]⟩ : ByteArray)) ++ a).size = s.size + 1 + a.size := by rw [ByteArray.size_append, z1]
  have hE0 : E0.toList = ([] : List UInt8) := by rw [ba_toList]
  by_cases hone : W.length = 1
  · refine ev_pos (by omega) (ev_pos (by omega) (ev_pos (by omega) (ev_pos (by omega) (ev_pos (by omega) (ev_pos (by omega) (ev_call n1 (ev_pos (by simp) (ev_pos (by omega) (ev_call n2 (ev_pos (by simp [hE0]) (ev_pos (by omega) (ev_pos (by omega) (ev_call (n3 (.inl hone)) (ev_ret (by simp [hE0])))))))))))))))
  · have e1 : wrap64 ((W.length : Int) - 1) = ((W.length - 1 : Nat) : Int) := by rw [w64 (by omega) (by omega)]; omega
    refine ev_neg (by omega) ?_
    rw [e1, show rdOf ByteArray.empty W ((W.length - 1 : Nat) : Int) = last1 W from rfl]
    refine ev_pos (by omega) (ev_pos (by omega) (ev_call (rsys_ev _) (ev_pos (by omega) (ev_pos (by omega) (ev_pos (by omega) (ev_pos (by omega) (ev_pos (by omega) (ev_call n1 (ev_pos (by simp) (ev_pos (by omega) (ev_call n2 (ev_pos (by simp [hE0]) ?_))))))))))))
    by_cases hl : sysB (last1 W) = true
    · exact ev_pos hl (Ev.now true)
    · exact ev_neg hl (ev_pos (by omega) (ev_pos (by omega) (ev_call (n3 (.inr (by simpa using hl))) (ev_ret (by simp [hE0])))))
theorem pick_mem (l : List ByteArray) (x : Int) (h : l.length = 15 ∨ l.length = 14) : (¬ IntKind.u64.wrap ((l.length : Int)) = 0) ∧ 0 ≤ wrap64 (Int.tmod (IntKind.u64.wrap x) (IntKind.u64.wrap ((l.length : Int)))) ∧
    wrap64 (Int.tmod (IntKind.u64.wrap x) (IntKind.u64.wrap ((l.length : Int)))) < (l.length : Int) ∧ rdOf ByteArray.empty l (wrap64 (Int.tmod (IntKind.u64.wrap x) (IntKind.u64.wrap ((l.length : Int))))) ∈ l := by
  have hu : IntKind.u64.wrap ((l.length : Int)) = (l.length : Int) := by
    rcases h with h | h <;> rw [h] <;> decide
  have hx : 0 ≤ IntKind.u64.wrap x := by
    simp only [IntKind.wrap, IntKind.signed, IntKind.bits]
    simp
    omega
  rw [hu]
  have hm : 0 ≤ Int.tmod (IntKind.u64.wrap x) (l.length : Int) ∧ Int.tmod (IntKind.u64.wrap x) (l.length : Int) < (l.length : Int) := by
    rw [Int.tmod_eq_emod_of_nonneg hx]
    exact ⟨Int.emod_nonneg _ (by omega), Int.emod_lt_of_pos _ (by omega)⟩
  rw [w64 (by omega) (by omega)]
  refine ⟨by omega, hm.1, hm.2, ?_⟩
  obtain ⟨m, hm'⟩ := Int.eq_ofNat_of_zero_le hm.1
  rw [hm']
  exact rdOf_mem _ _ _ (by omega)
theorem SuffixTells_ev (s : ByteArray) (x1 x2 : Int) (t : Bool) : Ev (fun k => seichelaw15_SuffixTells.f k s x1 x2 t) true := by
  refine ev_call alive_ev (ev_pos rfl ?_)
  have hskip : Ev (fun k => seichelaw15_SuffixTells.j0 k s x1 x2 t true) true := Ev.step (fun _ => seichelaw15_SuffixTells.j0.eq_2 ..) (ev_pos rfl (Ev.now true))
  by_cases h : s.size ≤ 512
  · refine ev_neg (by omega) ?_
    by_cases h2 : s.toList = ([] : List UInt8)
    · refine ev_pos h2 ?_
      rw [beq_iff_eq.2 h2]
      exact hskip
    refine ev_neg h2 ?_
    have h0 : 0 < s.size := by
      rcases Nat.eq_zero_or_pos s.size with h | h
      · exact absurd (by
          rw [ba_toList]
          exact List.eq_nil_of_length_eq_zero h) h2
      · exact h
    refine ev_pos (by omega) ?_
    by_cases h3 : bt s 0 = 95
    · exact ev_pos h3 hskip
    refine ev_neg h3 ?_
    by_cases h4 : bt s 0 = 46
    · exact ev_pos h4 hskip
    refine ev_neg h4 ?_
    rw [beq_eq_false_iff_ne.2 h2]
    have b1 : begI (bytesOf s) 95 = false := by rw [begI_bt s h0]; exact beq_eq_false_iff_ne.2 h3
    have b2 : begI (bytesOf s) 46 = false := by rw [begI_bt s h0]; exact beq_eq_false_iff_ne.2 h4
    have bn : bytesOf s ≠ [] := fun e => by have := bytesOf_length s; rw [e] at this; simp at this; omega
    obtain ⟨u1, u2, u3, u4⟩ := pick_mem sysL x1 (.inl rfl)
    obtain ⟨v1, v2, v3, v4⟩ := pick_mem procL x2 (.inr rfl)
    have key := tells_j1 s _ _ t h bn b1 b2 u4 v4
    refine Ev.step (fun _ => seichelaw15_SuffixTells.j0.eq_2 ..) (ev_neg (by decide) (ev_call systems_ev (ev_call processors_ev (ev_neg u1 (ev_pos u2 (ev_pos u3 (ev_neg v1 (ev_pos v2 (ev_pos v3 ?_)))))))))
    cases t with
    | true => exact ev_pos rfl key
    | false => exact ev_neg (by decide) key
  · exact ev_pos (by omega) hskip
end Go.Proofs.YtnpbgegllphfkaaDoor.Su
