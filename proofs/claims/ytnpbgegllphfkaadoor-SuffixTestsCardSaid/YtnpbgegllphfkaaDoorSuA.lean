/- Chapter 15 in plain Lean: cutting at a sign, ends of texts, what a name says. -/
import Derived.Test.YtnpbgegllphfkaaDoorPAllx5
import Derived.Test.YtnpbgegllphfkaaDoorPAllx6
import Derived.Test.YtnpbgegllphfkaaDoorPAllx7
import Derived.Test.YtnpbgegllphfkaaDoorPw
import Derived.Lib.CountLaws
import Derived.Lib.SplitLaws
import Derived.Lib.IndexBytes
import Derived.Lib.IndexLaws
namespace Go.Proofs.YtnpbgegllphfkaaDoor.Su
open Go Go.RowKit Go.Proofs.YtnpbgegllphfkaaDoorW.PrintWords Go.Proofs.YtnpbgegllphfkaaDoorPw Go.Proofs.YtnpbgegllphfkaaDoor.PAll Go.Proofs.YtnpbgegllphfkaaDoor
/-- What stands between signs of one kind. -/
def cutI (c : Int) : List Int → List (List Int)
  | [] => [[]]
  | x :: l => if x = c then [] :: cutI c l else (x :: (cutI c l).headD []) :: (cutI c l).tail
theorem cutI_ne (c : Int) (l : List Int) : cutI c l ≠ [] := by
  cases l with
  | nil => simp [cutI]
  | cons x l => rw [cutI]; split <;> simp
theorem cutI_app (c : Int) : ∀ x y : List Int, cutI c (x ++ c :: y) = cutI c x ++ cutI c y
  | [], y => by simp [cutI]
  | a :: x, y => by
    rw [List.cons_append, cutI, cutI, cutI_app c x y]
    obtain ⟨p, q, e⟩ := List.exists_cons_of_ne_nil (cutI_ne c x)
    rw [e]
    split <;> simp
theorem cutI_none (c : Int) : ∀ l : List Int, (∀ z ∈ l, z ≠ c) → cutI c l = [l]
  | [], _ => rfl
  | x :: l, h => by rw [cutI, if_neg (h x (by simp)), cutI_none c l (fun z hz => h z (by simp [hz]))]; rfl
theorem cut_l0 (s : ByteArray) (c : Int) (hs : s.size ≤ 1099511627776) : ∀ (d i fr : Nat) (acc : List ByteArray), i + d = s.size → fr ≤ i → acc.length ≤ i →
    Ev (fun k => seicheref14_Cut.l0 k s c acc (fr : Int) (i : Int)) (acc ++ ((((((bytesOf s).take i).drop fr) ++ (cutI c ((bytesOf s).drop i)).headD []) :: (cutI c ((bytesOf s).drop i)).tail).map strOfNums)) := by
  intro d
  induction d with
  | zero =>
    intro i fr acc hi hf ha
    obtain rfl : i = s.size := by omega
    refine Ev.step (fun _ => seicheref14_Cut.l0.eq_2 ..) (ev_pos (by omega) (ev_pos rfl (ev_pos (by omega) (ev_pos (by omega) (ev_pos (by omega) ?_)))))
    refine Ev.step (fun _ => seicheref14_Cut.l0.eq_2 ..) (ev_neg (by rw [w64 (by omega) (by omega)]; omega) (ev_ret ?_))
    have e : (bytesOf s).drop s.size = [] := List.drop_eq_nil_of_le (by rw [bytesOf_length]; omega)
    rw [e]
    congr 1
    simp only [cutI, List.headD_cons, List.tail_cons, List.append_nil, List.map_cons, List.map_nil, Int.toNat_natCast]
    rw [← bytesOf_extract, str_bytes]
  | succ d ih =>
    intro i fr acc hi hf ha
    have hlt : i < s.size := by omega
    have hd := drop_bytes s i hlt
    have hw : wrap64 ((i : Int) + 1) = ((i + 1 : Nat) : Int) := by rw [w64 (by omega) (by omega)]; omega
    refine Ev.step (fun _ => seicheref14_Cut.l0.eq_2 ..) (ev_pos (by omega) (ev_neg (by omega) (ev_pos (by omega) (ev_pos (by omega) ?_))))
    by_cases hc : bt s (i : Int) = c
    · refine ev_pos hc (ev_pos (by omega) (ev_pos (by omega) (ev_pos (by omega) ?_)))
      rw [hw]
      have k := ih (i + 1) (i + 1) (acc ++ [s.extract ((fr : Int)).toNat ((i : Int)).toNat]) (by omega) (Nat.le_refl _) (by simp; omega)
      refine (congrArg (Ev _) ?_).mpr k
      rw [hd, cutI, if_pos hc]
      have e0 : ((bytesOf s).take (i + 1)).drop (i + 1) = [] := List.drop_eq_nil_of_le (by rw [List.length_take]; omega)
      obtain ⟨p, q, e⟩ := List.exists_cons_of_ne_nil (cutI_ne c ((bytesOf s).drop (i + 1)))
      rw [e0, e]
      simp only [List.headD_cons, List.tail_cons, List.append_nil, List.nil_append, List.map_cons, Int.toNat_natCast, List.append_assoc, List.cons_append]
      rw [← bytesOf_extract, str_bytes]
    · refine ev_neg hc ?_
      rw [hw]
      have k := ih (i + 1) fr acc (by omega) (by omega) (by omega)
      refine (congrArg (Ev _) ?_).mpr k
      rw [hd, cutI, if_neg hc]
      have e1 : ((bytesOf s).take (i + 1)).drop fr = ((bytesOf s).take i).drop fr ++ [bt s (i : Int)] := by
        have hl : i < (bytesOf s).length := by rw [bytesOf_length]; exact hlt
        have e2 : (bytesOf s).take (i + 1) = (bytesOf s).take i ++ [bt s (i : Int)] := by
          rw [List.take_succ_eq_append_getElem hl]
          congr 2
          rw [← bytesOf_getD, List.getD_eq_getElem?_getD, List.getElem?_eq_getElem hl]
          rfl
        rw [e2, List.drop_append_of_le_length (by rw [List.length_take, bytesOf_length]; omega)]
      rw [e1]
      simp only [List.headD_cons, List.tail_cons, List.append_assoc, List.cons_append, List.nil_append]
theorem cut_ev (s : ByteArray) (c : Int) (hs : s.size ≤ 1099511627776) : Ev (fun k => seicheref14_Cut.f k s c) ((cutI c (bytesOf s)).map strOfNums) := by
  have k := cut_l0 s c hs s.size 0 0 [] (by omega) (Nat.le_refl _) (by simp)
  obtain ⟨p, q, e⟩ := List.exists_cons_of_ne_nil (cutI_ne c (bytesOf s))
  have e2 : ([] ++ ((((((bytesOf s).take 0).drop 0) ++ (cutI c ((bytesOf s).drop 0)).headD []) :: (cutI c ((bytesOf s).drop 0)).tail).map strOfNums)) = (cutI c (bytesOf s)).map strOfNums := by
    simp [e]
  rw [e2] at k
  exact k
abbrev us : ByteArray := ⟨#[95]⟩
theorem split_eq : ∀ (k : Nat) (s : ByteArray), Lib.countB s us = k → Lib.splitB us 0 k s = (cutI 95 (bytesOf s)).map strOfNums := by
  intro k
  induction k with
  | zero =>
    intro s hk
    have hm : Lib.indexB s us = -1 := by
      rcases Lib.indexB_cases s us with h | ⟨i, h, _⟩
      · exact h
      · have := Lib.countB_hit s us i (by decide) h
        omega
    rw [Lib.splitB_miss _ _ _ _ hm, cutI_none]
    · simp [str_bytes]
    · intro z hz he
      rw [Lib.one s us rfl] at hm
      simp only [bytesOf, List.mem_map] at hz
      obtain ⟨b, hb, rfl⟩ := hz
      obtain ⟨j, hj⟩ := List.getElem?_of_mem hb
      refine Lib.indexByte_none hm j (hj.trans ?_)
      congr 1
      apply UInt8.toNat_inj.1
      show b.toNat = 95
      omega
  | succ k ih =>
    intro s hk
    rcases Lib.indexB_cases s us with h | ⟨i, h, hr⟩
    · have := Lib.countB_miss s us h
      omega
    · have hc := Lib.countB_hit s us i (by decide) h
      rw [Lib.splitB_hit us 0 k s i h, ih _ (by omega)]
      have h1 := h
      rw [Lib.one s us rfl] at h1
      obtain ⟨a1, a2⟩ := Lib.indexByte_some h1
      have hi : i < s.size := (show i + 1 ≤ s.size from hr)
      have hl : i < (bytesOf s).length := by rw [bytesOf_length]; exact hi
      have hb : bt s (i : Int) = 95 := by
        rw [← bytesOf_getD, bytesOf, List.getD_eq_getElem?_getD, List.getElem?_map, a1]
        rfl
      have e : bytesOf s = (bytesOf s).take i ++ 95 :: (bytesOf s).drop (i + 1) := by
        conv => lhs; rw [← List.take_append_drop i (bytesOf s), drop_bytes s i hi, hb]
      have e3 : bytesOf (s.extract (i + us.size) s.size) = (bytesOf s).drop (i + 1) := by
        rw [bytesOf_extract, List.take_of_length_le (by rw [bytesOf_length]; exact Nat.le_refl _)]
        rfl
      rw [e3]
      conv => rhs; rw [e, cutI_app]
      rw [cutI_none 95 ((bytesOf s).take i)]
      · simp only [List.map_cons, List.cons_append, List.nil_append, Nat.add_zero]
        congr 1
        have := bytesOf_extract s 0 i
        simp only [List.drop_zero] at this
        rw [← this, str_bytes]
      · intro z hz he
        obtain ⟨j, hj⟩ := List.getElem?_of_mem hz
        rw [List.getElem?_take] at hj
        split at hj
        · rename_i hji
          rw [bytesOf, List.getElem?_map] at hj
          obtain ⟨b, hb1, hb2⟩ := Option.map_eq_some_iff.1 hj
          refine a2 j hji (hb1.trans ?_)
          congr 1
          apply UInt8.toNat_inj.1
          show b.toNat = 95
          omega
        · cases hj
theorem split_f (s : ByteArray) (hs : s.size < 4294967281) : strings_Split.f s us = some ((cutI 95 (bytesOf s)).map strOfNums) := by
  unfold strings_Split.f
  rw [if_pos ⟨by decide, hs⟩, split_eq _ s rfl]
/-- Ends and beginnings. -/
def endsI (l p : List Int) : Bool := decide (p.length ≤ l.length) && decide (l.drop (l.length - p.length) = p)
theorem endsI_iff (l p : List Int) : endsI l p = true ↔ ∃ t, l = t ++ p := by
  unfold endsI
  rw [Bool.and_eq_true, decide_eq_true_eq, decide_eq_true_eq]
  constructor
  · rintro ⟨h1, h2⟩
    refine ⟨l.take (l.length - p.length), ?_⟩
    conv => lhs; rw [← List.take_append_drop (l.length - p.length) l, h2]
  · rintro ⟨t, rfl⟩
    exact ⟨by simp, by simp⟩
theorem beq_bytes (a b : ByteArray) : (a.toList == b.toList) = decide (bytesOf a = bytesOf b) := by
  rw [ba_beq]
  exact decide_eq_decide.2 ⟨fun h => by rw [h], bytes_inj⟩
theorem ends_f (a b : ByteArray) (ha : a.size ≤ 1099511627776) : seicheref15_Ends.f a b = some (endsI (bytesOf a) (bytesOf b)) := by
  unfold seicheref15_Ends.f endsI
  rw [bytesOf_length, bytesOf_length]
  by_cases h : b.size ≤ a.size
  · have hw : wrap64 ((a.size : Int) - (b.size : Int)) = ((a.size - b.size : Nat) : Int) := by rw [w64 (by omega) (by omega)]; omega
    rw [if_pos (by omega), hw, if_pos (by omega), if_pos (by omega), decide_eq_true h, Bool.true_and, beq_bytes, bytesOf_extract, Int.toNat_natCast, List.take_of_length_le (by rw [bytesOf_length]; exact Nat.le_refl _)]
  · rw [if_neg (by omega), decide_eq_false h, Bool.false_and]
theorem hasSuffix_f (a b : ByteArray) (ha : a.size ≤ 1099511627776) : stringslite_HasSuffix.f a b = some (endsI (bytesOf a) (bytesOf b)) := (show stringslite_HasSuffix.f a b = seicheref15_Ends.f a b from rfl).trans (ends_f a b ha)
/-- A text less its end. -/
def less (l p : List Int) : List Int := if endsI l p = true then l.take (l.length - p.length) else l
theorem less_str (a : ByteArray) (n : Nat) : a.extract 0 n = strOfNums ((bytesOf a).take n) := by
  have := bytesOf_extract a 0 n
  simp only [List.drop_zero] at this
  rw [← this, str_bytes]
theorem cutSuffix_f (a b : ByteArray) (ha : a.size ≤ 1099511627776) : strings_CutSuffix.f a b = some (strOfNums (less (bytesOf a) (bytesOf b)), endsI (bytesOf a) (bytesOf b)) := by
  unfold strings_CutSuffix.f stringslite_CutSuffix.f less
  rw [hasSuffix_f a b ha]
  simp only [Option.bind_some]
  by_cases h : endsI (bytesOf a) (bytesOf b) = true
  · have hl : b.size ≤ a.size := by
      have := h
      unfold endsI at this
      rw [Bool.and_eq_true, decide_eq_true_eq, bytesOf_length, bytesOf_length] at this
      exact this.1
    have hw : wrap64 ((a.size : Int) - (b.size : Int)) = ((a.size - b.size : Nat) : Int) := by rw [w64 (by omega) (by omega)]; omega
    rw [if_pos h, if_pos h, hw, if_pos (by omega), if_pos (by omega), h, Int.toNat_natCast, less_str, bytesOf_length, bytesOf_length]
    rfl
  · rw [if_neg h, if_neg h, str_bytes]
    rw [Bool.not_eq_true] at h
    rw [h]
    rfl
def begI (l : List Int) (c : Int) : Bool := decide (l.head? = some c)
theorem hasPrefix_f (a b : ByteArray) (c : Int) (hb : bytesOf b = [c]) (hbs : b.size = 1) (ha : a.size ≤ 1099511627776) : strings_HasPrefix.f a b = some (begI (bytesOf a) c) := by
  unfold strings_HasPrefix.f stringslite_HasPrefix.f begI
  rw [hbs]
  by_cases h : 1 ≤ a.size
  · rw [if_pos (by omega), if_pos (by decide), if_pos (by omega)]
    simp only [Option.bind_some]
    rw [beq_bytes, hb, bytesOf_extract, List.drop_zero]
    congr 1
    apply decide_eq_decide.2
    have hl : 1 ≤ (bytesOf a).length := by rw [bytesOf_length]; exact h
    cases hx : bytesOf a with
    | nil => rw [hx] at hl; simp at hl
    | cons x l => simp
  · rw [if_neg (by omega)]
    have : bytesOf a = [] := List.eq_nil_of_length_eq_zero (by rw [bytesOf_length]; omega)
    simp [this]
end Go.Proofs.YtnpbgegllphfkaaDoor.Su
