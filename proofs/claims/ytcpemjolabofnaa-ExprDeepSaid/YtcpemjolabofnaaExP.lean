/- What the reference's Tag and Pieces compute, on lists of bytes. -/
import Derived.Test.YtcpemjolabofnaaExQ
import Derived.Test.YtcpemjolabofnaaPAllx
namespace Go.Proofs.Ytcpemjolabofnaa.PAll
open Go Go.RowKit Go.Proofs.YtcpemjolabofnaaW.PrintWords Go.Proofs.YtcpemjolabofnaaW.PrintLast Go.Proofs.YtcpemjolabofnaaW.PrintMore Go.Proofs.YtcpemjolabofnaaMy Go.Proofs.Ytcpemjolabofnaa Go.Proofs.YtcpemjolabofnaaPw
set_option linter.unusedVariables false
set_option linter.unusedSimpArgs false
theorem sign_f (x : Int) : seicheref13_Sign.f x = some (isT x) := by
  unfold seicheref13_Sign.f
  by_cases h1 : 97 ≤ x <;> by_cases h2 : x ≤ 122 <;> by_cases h3 : 65 ≤ x <;> by_cases h4 : x ≤ 90 <;> by_cases h5 : 48 ≤ x <;> by_cases h6 : x ≤ 57 <;> by_cases h7 : x = 95 <;> simp [isT, h1, h2, h3, h4, h5, h6, h7] <;> omega
/-- A tag: signs alone, one at least. -/
def tagB (l : List Int) : Bool := l.all isT && !l.isEmpty
def rTag (x : ByteArray) : Bool := tagB (bytesOf x)
theorem empty_iff (s : ByteArray) : s.toList = [] ↔ bytesOf s = [] := by
  rw [ba_toList]
  simp [bytesOf]
theorem refTag_l0 (s : ByteArray) (hs : s.size ≤ 140737488351232) : ∀ (m i : Nat), s.size - i = m → i ≤ s.size → Ev (fun k => seicheref13_Tag.l0 k s (i : Int)) (((bytesOf s).drop i).all isT && !(bytesOf s).isEmpty)
  | 0, i, hm, hi => by
    refine Ev.step (fun _ => rfl) (ev_neg (by omega) (ev_ret ?_))
    have : (bytesOf s).drop i = [] := List.drop_of_length_le (by rw [bytesOf_length]; omega)
    rw [this]
    simp only [List.all_nil, Bool.true_and]
    by_cases h : bytesOf s = []
    · rw [(empty_iff s).2 h, h]
      rfl
    · have h2 : ¬ s.toList = [] := fun e => h ((empty_iff s).1 e)
      cases h3 : s.toList with
      | nil => exact absurd h3 h2
      | cons a b =>
        cases h4 : bytesOf s with
        | nil => exact absurd h4 h
        | cons c d => rfl
  | m + 1, i, hm, hi => by
    have hlt : i < s.size := by omega
    refine Ev.step (fun _ => rfl) (ev_pos (by omega) (ev_pos (by omega) ?_))
    rw [drop_bytes s i hlt, List.all_cons]
    refine ev_call (ev_eq (sign_f _)) ?_
    by_cases h : isT (bt s i) = true
    · rw [h, Bool.true_and]
      refine ev_pos rfl ?_
      rw [show wrap64 ((i : Int) + 1) = ((i + 1 : Nat) : Int) by rw [w64 (by omega) (by omega)]; omega]
      exact refTag_l0 s hs m (i + 1) (by omega) (by omega)
    · rw [Bool.eq_false_iff.2 h, Bool.false_and, Bool.false_and]
      exact ev_neg (by simp) (ev_ret rfl)
theorem refTag_ev (s : ByteArray) (hs : s.size ≤ 140737488351232) : Ev (fun k => seicheref13_Tag.f k s) (rTag s) := refTag_l0 s hs _ 0 rfl (Nat.zero_le _)
/-! The pieces. -/
def pcsN : Nat → List Int → List (List Int)
  | 0, _ => []
  | _ + 1, [] => []
  | k + 1, c :: l => if isB c = true then pcsN k l else if isT c = true then (c :: l).takeWhile isT :: pcsN k ((c :: l).dropWhile isT) else if c = 33 ∨ c = 40 ∨ c = 41 then [c] :: pcsN k l
    else if (c = 38 ∨ c = 124) ∧ l.head? = some c then [c, c] :: pcsN k l.tail else [[]]
theorem dw_len (l : List Int) : (l.dropWhile isT).length ≤ l.length := (List.dropWhile_sublist isT).length_le
theorem pcsN_more : ∀ (k m : Nat) (l : List Int), l.length ≤ k → l.length ≤ m → pcsN k l = pcsN m l
  | 0, m, [], _, _ => by cases m <;> rfl
  | k + 1, 0, [], _, _ => rfl
  | k + 1, m + 1, [], _, _ => rfl
  | k + 1, m + 1, c :: l, h1, h2 => by
    simp only [List.length_cons] at h1 h2
    have e1 := pcsN_more k m l (by omega) (by omega)
    have e2 := pcsN_more k m l.tail (by simp; omega) (by simp; omega)
    have e3 : isT c = true → pcsN k ((c :: l).dropWhile isT) = pcsN m ((c :: l).dropWhile isT) := fun h => by
      have : ((c :: l).dropWhile isT).length ≤ l.length := by rw [List.dropWhile_cons, if_pos h]; exact dw_len l
      exact pcsN_more k m _ (by omega) (by omega)
    simp only [pcsN]
    by_cases b : isB c = true
    · rw [if_pos b, if_pos b, e1]
    · rw [if_neg b, if_neg b]
      by_cases t : isT c = true
      · rw [if_pos t, if_pos t, e3 t]
      · rw [if_neg t, if_neg t, e1, e2]
def pcs (l : List Int) : List (List Int) := pcsN l.length l
theorem pcs_nil : pcs [] = [] := rfl
theorem pcs_cons (c : Int) (l : List Int) : pcs (c :: l) = if isB c = true then pcs l else if isT c = true then (c :: l).takeWhile isT :: pcs ((c :: l).dropWhile isT) else if c = 33 ∨ c = 40 ∨ c = 41 then [c] :: pcs l
    else if (c = 38 ∨ c = 124) ∧ l.head? = some c then [c, c] :: pcs l.tail else [[]] := by
  unfold pcs
  simp only [List.length_cons, pcsN]
  have e2 := pcsN_more l.length l.tail.length l.tail (by simp) (Nat.le_refl _)
  have e3 : isT c = true → pcsN l.length ((c :: l).dropWhile isT) = pcsN ((c :: l).dropWhile isT).length ((c :: l).dropWhile isT) := fun h => by
    have : ((c :: l).dropWhile isT).length ≤ l.length := by rw [List.dropWhile_cons, if_pos h]; exact dw_len l
    exact pcsN_more _ _ _ this (Nat.le_refl _)
  by_cases b : isB c = true
  · rw [if_pos b, if_pos b]
  · rw [if_neg b, if_neg b]
    by_cases t : isT c = true
    · rw [if_pos t, if_pos t, e3 t]
    · rw [if_neg t, if_neg t, e2]
theorem isB_iff (c : Int) : isB c = true ↔ c = 32 ∨ c = 9 := by simp [isB]
theorem isB_noT {c : Int} (h : isB c = true) : isT c = false := by
  rcases (isB_iff c).1 h with rfl | rfl <;> rfl
theorem sign_noT {c : Int} (h : c = 33 ∨ c = 40 ∨ c = 41) : isT c = false := by rcases h with rfl | rfl | rfl <;> rfl
/-- The run of a tag's signs at a place. -/
def runL (s : ByteArray) (i : Nat) : Nat := (((bytesOf s).drop i).takeWhile isT).length
theorem runL_le (s : ByteArray) (i : Nat) (h : i ≤ s.size) : i + runL s i ≤ s.size := by
  have := (List.takeWhile_prefix isT (l := (bytesOf s).drop i)).length_le
  rw [List.length_drop, bytesOf_length] at this
  unfold runL
  omega
theorem refPieces_l1 (s : ByteArray) (hs : s.size ≤ 4294967296) (O : List ByteArray) (i : Nat) (r : List ByteArray) : ∀ (m n : Nat), s.size - (i + n) = m → i + n ≤ s.size → Ev (fun k => seicheref13_Pieces.j2 k s O (i : Int) ((n + runL s (i + n) : Nat) : Int)) r → Ev (fun k => seicheref13_Pieces.l1 k s O (i : Int) (n : Int)) r
  | 0, n, hm, hi, h => by
    refine Ev.step (fun _ => rfl) ?_
    simp only [seicheref13_Pieces.l1]
    rw [show wrap64 ((i : Int) + (n : Int)) = ((i + n : Nat) : Int) by rw [w64 (by omega) (by omega)]; omega]
    refine ev_neg (by omega) ?_
    have : runL s (i + n) = 0 := by
      unfold runL
      rw [show i + n = s.size by omega, tw_end]
      rfl
    rw [this] at h
    exact h
  | m + 1, n, hm, hi, h => by
    refine Ev.step (fun _ => rfl) ?_
    simp only [seicheref13_Pieces.l1]
    rw [show wrap64 ((i : Int) + (n : Int)) = ((i + n : Nat) : Int) by rw [w64 (by omega) (by omega)]; omega]
    refine ev_pos (by omega) (ev_pos (by omega) (ev_call (ev_eq (sign_f _)) ?_))
    have htw := tw_step s (i + n) (by omega)
    by_cases t : isT (bt s ((i + n : Nat) : Int)) = true
    · rw [t]
      refine ev_pos rfl ?_
      rw [show wrap64 ((n : Int) + 1) = ((n + 1 : Nat) : Int) by rw [w64 (by omega) (by omega)]; omega]
      refine refPieces_l1 s hs O i r m (n + 1) (by omega) (by omega) ?_
      have e : n + runL s (i + n) = n + 1 + runL s (i + (n + 1)) := by
        unfold runL
        rw [htw, if_pos t, List.length_cons, ← Nat.add_assoc i n 1]
        omega
      rw [e] at h
      exact h
    · rw [Bool.eq_false_iff.2 t]
      refine ev_neg (by simp) ?_
      have : runL s (i + n) = 0 := by
        unfold runL
        rw [htw, if_neg t]
        rfl
      rw [this] at h
      exact h
theorem extract_len (s : ByteArray) (i n : Nat) (h : i + n ≤ s.size) : s.extract i (i + n) = strOfNums (((bytesOf s).drop i).take n) := by
  rw [← str_bytes (s.extract i (i + n)), bytesOf_extract, List.drop_take]
  congr 2
  omega
theorem ar1 {a i r m : Nat} (hm : a - i = m) (hle : i + r ≤ a) (hr : 0 < r) : a - (i + r) < m := by omega
theorem ar2 {a i r m n B : Nat} (hm : a - i = m) (hle : i + r ≤ a) (hr : 0 < r) (h : n + m ≤ B) : n + 1 + (a - (i + r)) ≤ B := by omega
set_option maxHeartbeats 4000000 in
/-- Behind the pieces out, from the place i on. -/
theorem refPieces_l0 (s : ByteArray) (hs : s.size ≤ 4294967296) : ∀ (m i : Nat) (O : List ByteArray), s.size - i = m → i ≤ s.size → O.length + m ≤ 8589934592 → Ev (fun k => seicheref13_Pieces.l0 k s O (i : Int)) (O ++ (pcs ((bytesOf s).drop i)).map strOfNums) := by
  intro m
  induction m using Nat.strongRecOn with
  | ind m ih =>
  intro i O hm hi hO
  by_cases hlt : i < s.size
  · have hd := drop_bytes s i hlt
    refine Ev.step (fun _ => rfl) (ev_pos (by omega) (refPieces_l1 s hs O i _ _ 0 rfl (by omega) ?_))
    rw [Nat.zero_add, Nat.add_zero]
    have htw := tw_step s i hlt
    have hw1 : wrap64 ((i : Int) + 1) = ((i + 1 : Nat) : Int) := by rw [w64 (by omega) (by omega)]; omega
    have hw2 : wrap64 ((i : Int) + 2) = ((i + 2 : Nat) : Int) := by rw [w64 (by omega) (by omega)]; omega
    have k0 : (0 : Int) ≤ (i : Int) := by omega
    have k3 : O.length < 8796093022208 := by omega
    have K3 := Aside0.mk k3
    clear k3
    have kz : ¬ ((2 : Nat) = 0) := by decide
    have k02 : ∀ n : Nat, (i : Int) ≤ ((i + n : Nat) : Int) := fun n => by omega
    have hwm : wrap64 ((s.size : Int) - 1) = ((s.size - 1 : Nat) : Int) := by rw [w64 (by omega) (by omega)]; omega
    refine Ev.step (fun _ => rfl) ?_
    simp only [seicheref13_Pieces.j2]
    refine ev_pos (by omega) (ev_pos (by omega) ?_)
    have key : Ev (fun k => seicheref13_Pieces.j3 k s O (i : Int) (runL s i : Int) (isB (bt s i))) (O ++ (pcs ((bytesOf s).drop i)).map strOfNums) := by
      refine Ev.step (fun _ => rfl) ?_
      simp only [seicheref13_Pieces.j3]
      by_cases b : isB (bt s i) = true
      · refine ev_pos b ?_
        rw [hw1]
        have e : pcs ((bytesOf s).drop i) = pcs ((bytesOf s).drop (i + 1)) := by rw [hd, pcs_cons, if_pos b]
        rw [e]
        exact ih (m - 1) (by omega) (i + 1) O (by omega) (by omega) (by omega)
      · refine ev_neg b ?_
        by_cases t : isT (bt s i) = true
        · -- a tag
          have hr : runL s i = runL s (i + 1) + 1 := by
            unfold runL
            rw [htw, if_pos t, List.length_cons]
          have hle := runL_le s i hi
          refine ev_neg (by omega) ?_
          refine Ev.step (fun _ => rfl) ?_
          simp only [seicheref13_Pieces.j4]
          refine ev_neg (by simp) ?_
          refine Ev.step (fun _ => rfl) ?_
          simp only [seicheref13_Pieces.j5]
          refine ev_neg (by omega) ?_
          refine Ev.step (fun _ => rfl) ?_
          simp only [seicheref13_Pieces.j6]
          refine ev_neg (by simp) (ev_neg (by omega) ?_)
          have hwn : wrap64 ((i : Int) + (runL s i : Int)) = ((i + runL s i : Nat) : Int) := by rw [w64 (by omega) (by omega)]; omega
          rw [hwn]
          have k2 : ((i + runL s i : Nat) : Int) ≤ (s.size : Int) := Int.ofNat_le.2 hle
          refine ev_pos k0 (ev_pos (k02 _) (ev_pos k2 (ev_pos K3.out ?_)))
          simp only [Int.toNat_natCast]
          have e : pcs ((bytesOf s).drop i) = ((bytesOf s).drop i).takeWhile isT :: pcs ((bytesOf s).drop (i + runL s i)) := by
            have hdw : ((bytesOf s).drop i).dropWhile isT = (bytesOf s).drop (i + runL s i) := by
              rw [← List.drop_drop]
              have := List.takeWhile_append_dropWhile (p := isT) (l := (bytesOf s).drop i)
              conv => rhs; rw [← this]
              unfold runL
              rw [List.drop_append_of_le_length (Nat.le_refl _), List.drop_length, List.nil_append]
            rw [← hdw]
            conv => lhs; rw [hd, pcs_cons, if_neg b, if_pos t]
            rw [← hd]
          have e2 : s.extract i (i + runL s i) = strOfNums (((bytesOf s).drop i).takeWhile isT) := by
            rw [extract_len s i _ hle]
            congr 1
            have := List.takeWhile_append_dropWhile (p := isT) (l := (bytesOf s).drop i)
            conv => lhs; rw [← this]
            unfold runL
            rw [List.take_append_of_le_length (Nat.le_refl _), List.take_length]
          rw [e, e2, List.map_cons]
          have := ih (s.size - (i + runL s i)) (ar1 hm hle (hr ▸ Nat.succ_pos _)) (i + runL s i) (O ++ [strOfNums (((bytesOf s).drop i).takeWhile isT)]) rfl hle (by rw [List.length_append, List.length_singleton]; exact ar2 hm hle (hr ▸ Nat.succ_pos _) hO)
          simpa using this
        · have hr : runL s i = 0 := by
            unfold runL
            rw [htw, if_neg t]
            rfl
          rw [hr]
          refine ev_pos rfl (ev_pos (by omega) (ev_pos (by omega) ?_))
          by_cases c1 : bt s i = 33 ∨ bt s i = 40 ∨ bt s i = 41
          · have k4 : Ev (fun k => seicheref13_Pieces.j4 k s O (i : Int) (0 : Int) true) (O ++ (pcs ((bytesOf s).drop i)).map strOfNums) := by
              refine Ev.step (fun _ => rfl) ?_
              simp only [seicheref13_Pieces.j4]
              refine ev_pos trivial ?_
              refine Ev.step (fun _ => rfl) ?_
              simp only [seicheref13_Pieces.j5]
              refine ev_neg (by omega) ?_
              refine Ev.step (fun _ => rfl) ?_
              simp only [seicheref13_Pieces.j6]
              refine ev_neg (by simp) (ev_neg (by omega) ?_)
              rw [hw1]
              have k2 : ((i + 1 : Nat) : Int) ≤ (s.size : Int) := by omega
              refine ev_pos k0 (ev_pos (k02 _) (ev_pos k2 (ev_pos K3.out ?_)))
              simp only [Int.toNat_natCast]
              have e : pcs ((bytesOf s).drop i) = [bt s i] :: pcs ((bytesOf s).drop (i + 1)) := by rw [hd, pcs_cons, if_neg b, if_neg t, if_pos c1]
              have e2 : s.extract i (i + 1) = strOfNums [bt s i] := by rw [extract_len s i 1 (by omega), hd]; rfl
              rw [e, e2, List.map_cons]
              have := ih (m - 1) (by omega) (i + 1) (O ++ [strOfNums [bt s i]]) (by omega) (by omega) (by simp; omega)
              simpa using this
            rcases c1 with c | c | c
            · exact ev_pos c k4
            · exact ev_neg (by omega) (ev_pos c k4)
            · refine ev_neg (by omega) (ev_neg (by omega) ?_)
              rw [c]
              exact k4
          · refine ev_neg (by omega) (ev_neg (by omega) ?_)
            rw [show ((bt s (i : Int)) == 41) = false from beq_eq_false_iff_ne.mpr (by omega)]
            refine Ev.step (fun _ => rfl) ?_
            simp only [seicheref13_Pieces.j4]
            refine ev_neg (by simp) ?_
            refine Ev.step (fun _ => rfl) ?_
            simp only [seicheref13_Pieces.j5]
            refine ev_pos rfl ?_
            rw [hwm]
            have kno : pcs ((bytesOf s).drop i) = [[]] → Ev (fun k => seicheref13_Pieces.j6 k s O (i : Int) (0 : Int) false) (O ++ (pcs ((bytesOf s).drop i)).map strOfNums) := fun e => by
              rw [e]
              refine Ev.step (fun _ => rfl) ?_
              simp only [seicheref13_Pieces.j6]
              refine ev_neg (by simp) (ev_pos trivial (ev_pos K3.out (ev_ret ?_)))
              rfl
            by_cases hl : i < s.size - 1
            · refine ev_pos (by omega) (ev_pos (by omega) ?_)
              rw [hw2]
              refine ev_pos (by omega) (ev_pos (by omega) ?_)
              simp only [Int.toNat_natCast]
              have hd2 := drop_bytes s (i + 1) (by omega)
              have ex : s.extract i (i + 2) = strOfNums [bt s i, bt s ((i + 1 : Nat) : Int)] := by rw [extract_len s i 2 (by omega), hd, hd2]; rfl
              have exB : bytesOf (s.extract i (i + 2)) = [bt s i, bt s ((i + 1 : Nat) : Int)] := by rw [bytesOf_extract, List.drop_take, hd, hd2, show i + 2 - i = 2 by omega]; rfl
              have iff38 : ((s.extract i (i + 2)).toList = ([38, 38] : List UInt8)) ↔ bt s i = 38 ∧ bt s ((i + 1 : Nat) : Int) = 38 := by
                rw [show ([38, 38] : List UInt8) = (⟨#[38, 38]⟩ : ByteArray).toList by rw [ba_toList], ba_iff]
                constructor
                · intro e
                  have := congrArg bytesOf e
                  rw [exB] at this
                  have h2 : [bt s i, bt s ((i + 1 : Nat) : Int)] = [38, 38] := this
                  simpa using h2
                · intro e
                  apply bytes_inj
                  rw [exB, e.1, e.2]
                  rfl
              have iff124 : ((s.extract i (i + 2)).toList = ([124, 124] : List UInt8)) ↔ bt s i = 124 ∧ bt s ((i + 1 : Nat) : Int) = 124 := by
                rw [show ([124, 124] : List UInt8) = (⟨#[124, 124]⟩ : ByteArray).toList by rw [ba_toList], ba_iff]
                constructor
                · intro e
                  have := congrArg bytesOf e
                  rw [exB] at this
                  have h2 : [bt s i, bt s ((i + 1 : Nat) : Int)] = [124, 124] := this
                  simpa using h2
                · intro e
                  apply bytes_inj
                  rw [exB, e.1, e.2]
                  rfl
              have hpc : pcs ((bytesOf s).drop i) = if (bt s i = 38 ∨ bt s i = 124) ∧ some (bt s ((i + 1 : Nat) : Int)) = some (bt s i) then [bt s i, bt s i] :: pcs ((bytesOf s).drop (i + 2)) else [[]] := by
                rw [hd, pcs_cons, if_neg b, if_neg t, if_neg c1, hd2]
                rfl
              have k6 : (bt s i = 38 ∨ bt s i = 124) ∧ bt s ((i + 1 : Nat) : Int) = bt s i → Ev (fun k => seicheref13_Pieces.j6 k s O (i : Int) (0 : Int) true) (O ++ (pcs ((bytesOf s).drop i)).map strOfNums) := fun ⟨h1, h2⟩ => by
                refine Ev.step (fun _ => rfl) ?_
                simp only [seicheref13_Pieces.j6]
                refine ev_pos trivial (ev_neg kz (ev_pos k0 ?_))
                rw [hw2]
                have k2 : ((i + 2 : Nat) : Int) ≤ (s.size : Int) := by omega
                refine ev_pos (k02 _) (ev_pos k2 (ev_pos K3.out ?_))
                simp only [Int.toNat_natCast]
                rw [hpc, if_pos ⟨h1, by rw [h2]⟩, ex, h2, List.map_cons]
                have := ih (m - 2) (by omega) (i + 2) (O ++ [strOfNums [bt s i, bt s i]]) (by omega) (by omega) (by simp; omega)
                simpa using this
              by_cases h38 : bt s i = 38 ∧ bt s ((i + 1 : Nat) : Int) = 38
              · exact ev_pos (iff38.2 h38) (k6 ⟨.inl h38.1, by omega⟩)
              · refine ev_neg (fun e => h38 (iff38.1 e)) ?_
                by_cases h124 : bt s i = 124 ∧ bt s ((i + 1 : Nat) : Int) = 124
                · rw [show ((s.extract i (i + 2)).toList == ([124, 124] : List UInt8)) = true from beq_iff_eq.mpr (iff124.2 h124)]
                  exact k6 ⟨.inr h124.1, by omega⟩
                · rw [show ((s.extract i (i + 2)).toList == ([124, 124] : List UInt8)) = false from beq_eq_false_iff_ne.mpr (fun e => h124 (iff124.1 e))]
                  refine kno ?_
                  rw [hpc, if_neg]
                  rintro ⟨h1 | h1, h2⟩
                  · exact h38 ⟨h1, by simpa [h1] using h2⟩
                  · exact h124 ⟨h1, by simpa [h1] using h2⟩
            · refine ev_neg (by omega) (kno ?_)
              have : (bytesOf s).drop (i + 1) = [] := List.drop_of_length_le (by rw [bytesOf_length]; omega)
              rw [hd, pcs_cons, if_neg b, if_neg t, if_neg c1, this, if_neg (by simp)]
    by_cases c32 : bt s i = 32
    · refine ev_pos c32 ?_
      rw [show isB (bt s i) = true from (isB_iff _).2 (.inl c32)] at key
      exact key
    · refine ev_neg c32 ?_
      have : isB (bt s i) = (bt s (i : Int) == 9) := by simp [isB, c32]
      rw [this] at key
      exact key
  · refine Ev.step (fun _ => rfl) (ev_neg (by omega) (ev_ret ?_))
    have : (bytesOf s).drop i = [] := List.drop_of_length_le (by rw [bytesOf_length]; omega)
    rw [this, pcs_nil]
    simp
def pcsS (s : ByteArray) : List ByteArray := (pcs (bytesOf s)).map strOfNums
theorem refPieces_ev (s : ByteArray) (hs : s.size ≤ 4294967296) : Ev (fun k => seicheref13_Pieces.f k s) (pcsS s) := refPieces_l0 s hs _ 0 [] rfl (Nat.zero_le _) (by simp; omega)
end Go.Proofs.Ytcpemjolabofnaa.PAll
