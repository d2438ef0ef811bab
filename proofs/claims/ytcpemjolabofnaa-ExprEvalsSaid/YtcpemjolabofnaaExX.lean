/- What is read of pieces, with other pieces behind, or deeper within brackets; and what its parts are worth. -/
import Derived.Test.YtcpemjolabofnaaExW
import Derived.Test.YtcpemjolabofnaaExU
namespace Go.Proofs.Ytcpemjolabofnaa.PAll
open Go Go.RowKit Go.Proofs.YtcpemjolabofnaaW.PrintWords Go.Proofs.YtcpemjolabofnaaW.PrintLast Go.Proofs.YtcpemjolabofnaaW.PrintMore Go.Proofs.YtcpemjolabofnaaMy Go.Proofs.Ytcpemjolabofnaa Go.Proofs.YtcpemjolabofnaaPw
set_option linter.unusedVariables false
set_option linter.unusedSimpArgs false
def eB : ByteArray := ⟨#[]⟩
/-- The parts X are worth v, if just these tags are on. -/
def Val (on X : List ByteArray) (v : Bool) : Prop := ∀ (Y : List ByteArray) (st : List Bool), evL on (X ++ Y) st = evL on Y (st ++ [v])
theorem step_go {on : List ByteArray} {s : ByteArray} {st st' : List Bool} (h : evStep on st s = some st') (Y : List ByteArray) : evL on (s :: Y) st = evL on Y st' := by
  simp only [evL, h]
theorem rTag_ne {y : ByteArray} (h : rTag y = true) : y ≠ sNot ∧ y ≠ sAnd ∧ y ≠ sOr ∧ y ≠ sOpen ∧ y ≠ sShut ∧ y ≠ eB := by
  refine ⟨?_, ?_, ?_, ?_, ?_, ?_⟩ <;> (rintro rfl; exact absurd h (by decide))
theorem val_tag (on : List ByteArray) {y : ByteArray} (h : rTag y = true) : Val on [y] (memB on y) := by
  intro Y st
  obtain ⟨h1, h2, h3, _⟩ := rTag_ne h
  refine step_go ?_ Y
  unfold evStep
  rw [if_neg (fun e => h1 e.1), if_neg (fun e => h2 e.1), if_neg (fun e => h3 e.1), if_pos h]
theorem last_get (st : List Bool) (v : Bool) : (st ++ [v]).getD ((st ++ [v]).length - 1) false = v := by
  simp [List.getD_eq_getElem?_getD]
theorem step_not (on : List ByteArray) (st : List Bool) (v : Bool) : evStep on (st ++ [v]) sNot = some (st ++ [!v]) := by
  unfold evStep
  rw [if_pos ⟨rfl, by simp⟩, last_get]
  congr 1
  simp
theorem two_get (st : List Bool) (v u : Bool) : (st ++ [v] ++ [u]).getD ((st ++ [v] ++ [u]).length - 2) false = v := by
  have : (st ++ [v] ++ [u]).length - 2 = st.length := by simp
  rw [this]
  simp [List.getD_eq_getElem?_getD]
theorem two_take (st : List Bool) (v u : Bool) : (st ++ [v] ++ [u]).take ((st ++ [v] ++ [u]).length - 2) = st := by
  have : (st ++ [v] ++ [u]).length - 2 = st.length := by simp
  rw [this]
  simp
theorem step_and (on : List ByteArray) (st : List Bool) (v u : Bool) : evStep on (st ++ [v] ++ [u]) sAnd = some (st ++ [v && u]) := by
  unfold evStep
  rw [if_neg (fun e => absurd e.1 (by decide)), if_pos ⟨rfl, by simp⟩, two_get, last_get, two_take]
theorem step_or (on : List ByteArray) (st : List Bool) (v u : Bool) : evStep on (st ++ [v] ++ [u]) sOr = some (st ++ [v || u]) := by
  unfold evStep
  rw [if_neg (fun e => absurd e.1 (by decide)), if_neg (fun e => absurd e.1 (by decide)), if_pos ⟨rfl, by simp⟩, two_get, last_get, two_take]
theorem val_not {on X : List ByteArray} {v : Bool} (h : Val on X v) : Val on (X ++ [sNot]) (!v) := by
  intro Y st
  rw [List.append_assoc, h]
  exact step_go (step_not on st v) Y
/-- The sign of a list of parts: what it makes of two. -/
def Opr (sg : ByteArray) (f : Bool → Bool → Bool) : Prop := (sg = sAnd ∧ f = Bool.and) ∨ (sg = sOr ∧ f = Bool.or)
theorem Opr.step {sg : ByteArray} {f : Bool → Bool → Bool} (h : Opr sg f) (on : List ByteArray) (st : List Bool) (v u : Bool) : evStep on (st ++ [v] ++ [u]) sg = some (st ++ [f v u]) := by
  rcases h with ⟨rfl, rfl⟩ | ⟨rfl, rfl⟩
  · exact step_and on st v u
  · exact step_or on st v u
theorem Opr.ne {sg : ByteArray} {f : Bool → Bool → Bool} (h : Opr sg f) : sg ≠ sShut ∧ sg ≠ eB ∧ sg ≠ sNot ∧ sg ≠ sOpen := by
  rcases h with ⟨rfl, rfl⟩ | ⟨rfl, rfl⟩ <;> decide
/-- What is read whole. -/
def S1 (R : Rt → Option (Int × Rt)) (d : Int) : Prop := ∀ (L O L1 O1 : List ByteArray) (d1 : Int), R (L, O, d) = some (0, L1, O1, d1) →
  d1 = d ∧ L1.length < L.length ∧ (eB ∈ L → eB ∈ L1) ∧ ∃ X, O1 = O ++ X ∧ X.length + L1.length ≤ L.length ∧ ∀ on, ∃ v, Val on X v
theorem rtk_cases {a : ByteArray} {L : List ByteArray} {b : Bool} {T : List ByteArray} (h : rtk a L = (b, T)) : (b = true ∧ L = a :: T) ∨ (b = false ∧ L = T ∧ ∀ t, L ≠ a :: t) := by
  cases b with
  | true => exact .inl ⟨rfl, rtk_len h⟩
  | false =>
    refine .inr ⟨rfl, (rtk_false h).symm, fun t e => ?_⟩
    subst e
    simp only [rtk, if_pos] at h
    cases h
theorem s1_part (RG : Rt → Option (Int × Rt)) (d : Int) (hG : S1 RG (d + 1)) : S1 (rpartG RG) d := by
  intro L O L1 O1 d1 h
  obtain ⟨b, T, ht⟩ : ∃ b T, rtk sOpen L = (b, T) := ⟨_, _, rfl⟩
  unfold rpartG at h
  simp only [ht] at h
  rcases rtk_cases ht with ⟨rfl, rfl⟩ | ⟨rfl, rfl, hne⟩
  · simp only [↓reduceIte] at h
    split at h
    · split at h
      · simp at h
      · obtain ⟨⟨e, L2, O2, d2⟩, h2, h⟩ := Option.bind_eq_some_iff.mp h
        simp only at h
        split at h
        · next e0 =>
          subst e0
          obtain ⟨rfl, hl, he, X, rfl, hw, hv⟩ := hG _ _ _ _ _ h2
          split at h
          · obtain ⟨b, T3, ht3⟩ : ∃ b T, rtk sShut L2 = (b, T) := ⟨_, _, rfl⟩
            simp only [ht3] at h
            rcases rtk_cases ht3 with ⟨rfl, rfl⟩ | ⟨rfl, _, _⟩
            · simp only [↓reduceIte, Option.some.injEq, Prod.mk.injEq, true_and] at h
              obtain ⟨rfl, rfl, rfl⟩ := h
              simp only [List.length_cons] at hl hw ⊢
              refine ⟨by omega, by omega, fun hm => ?_, X, rfl, by omega, hv⟩
              have h1 : eB ∈ T := by
                rcases List.mem_cons.1 hm with e | e
                · exact absurd e (by decide)
                · exact e
              rcases List.mem_cons.1 (he h1) with e | e
              · exact absurd e (by decide)
              · exact e
            · simp at h
          · cases h
        · next e0 =>
          simp only [Option.some.injEq, Prod.mk.injEq] at h
          exact absurd h.1 e0
    · cases h
  · simp only [Bool.false_eq_true, ↓reduceIte] at h
    cases L with
    | nil => simp at h
    | cons y t =>
      simp only at h
      split at h
      · split at h
        · next hy =>
          split at h
          · simp only [Option.some.injEq, Prod.mk.injEq, true_and] at h
            obtain ⟨rfl, rfl, rfl⟩ := h
            refine ⟨rfl, by simp, fun hm => ?_, [y], rfl, by simp only [List.length_cons, List.length_nil]; omega, fun on => ⟨_, val_tag on hy⟩⟩
            rcases List.mem_cons.1 hm with e | e
            · exact absurd e.symm (rTag_ne hy).2.2.2.2.2
            · exact e
          · cases h
        · simp at h
      · cases h
theorem s1_not (R : Rt → Option (Int × Rt)) (d : Int) (hR : S1 R d) : S1 (rnotF R) d := by
  intro L O L1 O1 d1 h
  obtain ⟨b, T, ht⟩ : ∃ b T, rtk sNot L = (b, T) := ⟨_, _, rfl⟩
  unfold rnotF at h
  simp only [ht] at h
  obtain ⟨⟨e, L2, O2, d2⟩, h2, h3⟩ := Option.bind_eq_some_iff.mp h
  clear h
  have h := h3
  clear h3
  simp only at h
  rcases rtk_cases ht with ⟨rfl, rfl⟩ | ⟨rfl, rfl, hne⟩
  · by_cases e0 : e = 0
    · subst e0
      obtain ⟨rfl, hl, he, X, rfl, hw, hv⟩ := hR _ _ _ _ _ h2
      simp only [and_self, ↓reduceIte] at h
      split at h
      · simp only [Option.some.injEq, Prod.mk.injEq, true_and] at h
        obtain ⟨rfl, rfl, rfl⟩ := h
        simp only [List.length_cons]
        refine ⟨trivial, by omega, fun hm => he ?_, X ++ [sNot], by rw [List.append_assoc], by simp only [List.length_append, List.length_singleton]; omega, fun on => ?_⟩
        · rcases List.mem_cons.1 hm with e | e
          · exact absurd e (by decide)
          · exact e
        · obtain ⟨v, hv⟩ := hv on
          exact ⟨!v, val_not hv⟩
      · cases h
    · rw [if_neg (fun h => e0 h.1)] at h
      simp only [Option.some.injEq, Prod.mk.injEq] at h
      exact absurd h.1 e0
  · simp only [Bool.false_eq_true, and_false, ↓reduceIte, Option.some.injEq, Prod.mk.injEq] at h
    obtain ⟨rfl, rfl, rfl, rfl⟩ := h
    exact hR _ _ _ _ _ h2
theorem s1_loop (sg : ByteArray) (f : Bool → Bool → Bool) (ho : Opr sg f) (R : Rt → Option (Int × Rt)) (d : Int) (hR : S1 R d) : ∀ (k : Nat) (L O L1 O1 : List ByteArray) (d1 : Int), rlistL sg R k 0 (L, O, d) = some (0, L1, O1, d1) →
    d1 = d ∧ L1.length ≤ L.length ∧ (eB ∈ L → eB ∈ L1) ∧ ∃ X, O1 = O ++ X ∧ X.length + L1.length ≤ L.length ∧ ∀ (on : List ByteArray) (v : Bool), ∃ u, ∀ (Y : List ByteArray) (st : List Bool), evL on (X ++ Y) (st ++ [v]) = evL on Y (st ++ [u])
  | 0, L, O, L1, O1, d1, h => by simp [rlistL] at h
  | k + 1, L, O, L1, O1, d1, h => by
    obtain ⟨b, T, ht⟩ : ∃ b T, rtk sg L = (b, T) := ⟨_, _, rfl⟩
    simp only [rlistL, ht, ↓reduceIte] at h
    rcases rtk_cases ht with ⟨rfl, rfl⟩ | ⟨rfl, rfl, hne⟩
    · simp only [↓reduceIte] at h
      obtain ⟨⟨e, L2, O2, d2⟩, h2, h⟩ := Option.bind_eq_some_iff.mp h
      simp only at h
      split at h
      · by_cases e0 : e = 0
        · subst e0
          obtain ⟨rfl, hl, he, X, rfl, hw, hv⟩ := hR _ _ _ _ _ h2
          obtain ⟨rfl, hl3, he3, X3, rfl, hw3, hv3⟩ := s1_loop sg f ho R d2 hR k _ _ _ _ _ h
          simp only [List.length_cons]
          refine ⟨trivial, by omega, fun hm => he3 (he ?_), X ++ [sg] ++ X3, by simp only [List.append_assoc], by simp only [List.length_append, List.length_singleton]; omega, fun on v => ?_⟩
          · rcases List.mem_cons.1 hm with e | e
            · exact absurd e.symm ho.ne.2.1
            · exact e
          · obtain ⟨u, hu⟩ := hv on
            obtain ⟨z, hz⟩ := hv3 on (f v u)
            refine ⟨z, fun Y st => ?_⟩
            rw [List.append_assoc, List.append_assoc, hu, ← hz]
            exact step_go (ho.step on st v u) _
        · cases k with
          | zero => simp [rlistL] at h
          | succ k =>
            simp only [rlistL, e0, ↓reduceIte, Option.some.injEq, Prod.mk.injEq] at h
            exact absurd h.1 (by simp)
      · cases h
    · simp only [Bool.false_eq_true, ↓reduceIte, Option.some.injEq, Prod.mk.injEq, true_and] at h
      obtain ⟨rfl, rfl, rfl⟩ := h
      exact ⟨rfl, Nat.le_refl _, fun h => h, [], by simp, by simp, fun on v => ⟨v, fun Y st => rfl⟩⟩
theorem s1_list (sg : ByteArray) (f : Bool → Bool → Bool) (ho : Opr sg f) (R : Rt → Option (Int × Rt)) (d : Int) (m : Nat) (hR : S1 R d) : S1 (rlistF sg R m) d := by
  intro L O L1 O1 d1 h
  unfold rlistF at h
  obtain ⟨⟨e, L2, O2, d2⟩, h2, h⟩ := Option.bind_eq_some_iff.mp h
  simp only at h
  by_cases e0 : e = 0
  · subst e0
    obtain ⟨rfl, hl, he, X, rfl, hw, hv⟩ := hR _ _ _ _ _ h2
    obtain ⟨rfl, hl3, he3, X3, rfl, hw3, hv3⟩ := s1_loop sg f ho R d2 hR m _ _ _ _ _ h
    refine ⟨rfl, by omega, fun hm => he3 (he hm), X ++ X3, by rw [List.append_assoc], by rw [List.length_append]; omega, fun on => ?_⟩
    obtain ⟨v, hv⟩ := hv on
    obtain ⟨u, hu⟩ := hv3 on v
    exact ⟨u, fun Y st => by rw [List.append_assoc, hv, hu]⟩
  · cases m with
    | zero => simp [rlistL] at h
    | succ m =>
      simp only [rlistL, e0, ↓reduceIte, Option.some.injEq, Prod.mk.injEq] at h
      exact absurd h.1 (by simp)
theorem opr_and : Opr sAnd Bool.and := .inl ⟨rfl, rfl⟩
theorem opr_or : Opr sOr Bool.or := .inr ⟨rfl, rfl⟩
theorem s1_all (m : Nat) : ∀ (n : Nat) (d : Int), S1 (rpartF m n) d
  | 0, d => fun L O L1 O1 d1 h => by simp [rpartF] at h
  | n + 1, d => s1_part _ d (s1_list sOr _ opr_or _ _ m (s1_list sAnd _ opr_and _ _ m (s1_not _ _ (s1_all m n (d + 1)))))
theorem s1_or (m n : Nat) (d : Int) : S1 (rorF m n) d := s1_list sOr _ opr_or _ _ m (s1_list sAnd _ opr_and _ _ m (s1_not _ _ (s1_all m n d)))
/-- What stands behind doesn't go on with a list. -/
def Stop (L1 K : List ByteArray) : Prop := L1 = [] → K = [] ∨ ∃ t, K = sShut :: t
/-- The same with pieces behind it, at another depth; or too deep. -/
def S2 (R R' : Rt → Option (Int × Rt)) (d d' : Int) : Prop := ∀ (L O L1 X : List ByteArray) (d1 : Int), R (L, O, d) = some (0, L1, O ++ X, d1) →
  (∀ K O0, Stop L1 K → O0.length + (L ++ K).length ≤ 8192 → R' (L ++ K, O0, d') = some (0, L1 ++ K, O0 ++ X, d')) ∨
  (∀ K O0, Stop L1 K → O0.length + (L ++ K).length ≤ 8192 → ∃ L2 O2 d2, R' (L ++ K, O0, d') = some (8, L2, O2, d2) ∧ O2.length + L2.length ≤ O0.length + (L ++ K).length)
theorem stop_cons (x : ByteArray) (t K : List ByteArray) : Stop (x :: t) K := fun h => by cases h
theorem rtk_yes (a : ByteArray) (T : List ByteArray) : rtk a (a :: T) = (true, T) := by simp [rtk]
theorem rtk_no {a : ByteArray} {L : List ByteArray} (h : ∀ t, L ≠ a :: t) : rtk a L = (false, L) := by
  cases L with
  | nil => rfl
  | cons x t =>
    simp only [rtk]
    rw [if_neg (fun e => h t (by rw [e]))]
theorem append_ne {a : ByteArray} {L K : List ByteArray} (h : ∀ t, L ≠ a :: t) (hk : L = [] → ∀ t, K ≠ a :: t) : ∀ t, L ++ K ≠ a :: t := by
  cases L with
  | nil => exact hk rfl
  | cons x r =>
    intro t e
    rw [List.cons_append] at e
    injection e with e1 e2
    exact h r (by rw [e1])
theorem s2_part (RG RG' : Rt → Option (Int × Rt)) (d d' : Int) (h0 : 0 ≤ d') (h1 : d' ≤ 64) (hS : S1 RG (d + 1)) (hG : d' + 1 ≤ 64 → S2 RG RG' (d + 1) (d' + 1)) : S2 (rpartG RG) (rpartG RG') d d' := by
  intro L O L1 X d1 h
  have hdc : 0 ≤ d' ∧ d' ≤ 4294967296 := ⟨h0, by omega⟩
  have hdc1 : 0 ≤ d' + 1 ∧ d' + 1 ≤ 4294967296 := ⟨by omega, by omega⟩
  obtain ⟨b, T, ht⟩ : ∃ b T, rtk sOpen L = (b, T) := ⟨_, _, rfl⟩
  unfold rpartG at h
  simp only [ht] at h
  rcases rtk_cases ht with ⟨rfl, rfl⟩ | ⟨rfl, rfl, hne⟩
  · simp only [↓reduceIte] at h
    split at h
    · split at h
      · simp at h
      · obtain ⟨⟨e, L2, O2, d2⟩, h2, h⟩ := Option.bind_eq_some_iff.mp h
        simp only at h
        split at h
        · next e0 =>
          subst e0
          split at h
          · obtain ⟨b, T3, ht3⟩ : ∃ b T, rtk sShut L2 = (b, T) := ⟨_, _, rfl⟩
            simp only [ht3] at h
            rcases rtk_cases ht3 with ⟨rfl, rfl⟩ | ⟨rfl, _, _⟩
            · simp only [↓reduceIte, Option.some.injEq, Prod.mk.injEq, true_and] at h
              obtain ⟨rfl, rfl, _⟩ := h
              by_cases c : d' + 1 ≤ 64
              · have c2 : ¬ 64 < d' + 1 := by omega
                have hlen := (hS _ _ _ _ _ h2).2.1
                rcases hG c _ _ _ _ _ h2 with hG | hG
                · refine .inl fun K O0 hs hw => ?_
                  have e1 := hG K O0 (stop_cons _ _ _) (by simp only [List.length_append, List.length_cons] at hw ⊢; omega)
                  simp only [List.cons_append] at e1
                  simp only [rpartG, List.cons_append, rtk_yes, ↓reduceIte, hdc, hdc1, and_self, c2, e1, Option.bind_some]
                  simp
                · refine .inr fun K O0 hs hw => ?_
                  obtain ⟨L4, O4, d4, e1, w⟩ := hG K O0 (stop_cons _ _ _) (by simp only [List.length_append, List.length_cons] at hw ⊢; omega)
                  have h8 : ¬ ((8 : Int) = 0) := by omega
                  refine ⟨L4, O4, d4, ?_, by simp only [List.length_append, List.length_cons] at w ⊢; omega⟩
                  simp only [rpartG, List.cons_append, rtk_yes, ↓reduceIte, hdc, and_self, c2, e1, Option.bind_some, h8]
              · have c2 : 64 < d' + 1 := by omega
                refine .inr fun K O0 hs hw => ⟨T ++ K, O0, d' + 1, by simp only [rpartG, List.cons_append, rtk_yes, ↓reduceIte, hdc, and_self, c2], by simp only [List.cons_append, List.length_cons]; omega⟩
            · simp at h
          · cases h
        · next e0 =>
          simp only [Option.some.injEq, Prod.mk.injEq] at h
          exact absurd h.1 e0
    · cases h
  · simp only [Bool.false_eq_true, ↓reduceIte] at h
    cases L with
    | nil => simp at h
    | cons y t =>
      simp only at h
      split at h
      · next hsz =>
        split at h
        · next hy =>
          split at h
          · simp only [Option.some.injEq, Prod.mk.injEq, true_and] at h
            obtain ⟨rfl, hX, _⟩ := h
            have hX : X = [y] := (List.append_cancel_left hX).symm
            subst hX
            refine .inl fun K O0 hs hw => ?_
            have hl : O0.length < 4398046511104 := by simp only [List.length_append, List.length_cons] at hw; omega
            have hr : rtk sOpen (y :: (t ++ K)) = (false, y :: (t ++ K)) := rtk_no (fun r e => (rTag_ne hy).2.2.2.1 (List.cons.inj e).1)
            simp only [rpartG, List.cons_append, hr, Bool.false_eq_true, ↓reduceIte, hsz, hy, hl]
          · cases h
        · simp at h
      · cases h
theorem s2_not (R R' : Rt → Option (Int × Rt)) (d d' : Int) (hS : S1 R d) (hR : S2 R R' d d') : S2 (rnotF R) (rnotF R') d d' := by
  intro L O L1 X d1 h
  obtain ⟨b, T, ht⟩ : ∃ b T, rtk sNot L = (b, T) := ⟨_, _, rfl⟩
  unfold rnotF at h
  simp only [ht] at h
  obtain ⟨⟨e, L2, O2, d2⟩, h2, h3⟩ := Option.bind_eq_some_iff.mp h
  clear h
  have h := h3
  clear h3
  simp only at h
  have h8 : ¬ ((8 : Int) = 0) := by omega
  rcases rtk_cases ht with ⟨rfl, rfl⟩ | ⟨rfl, rfl, hne⟩
  · by_cases e0 : e = 0
    · subst e0
      obtain ⟨rfl, hl, he, X2, rfl, hw2, hv⟩ := hS _ _ _ _ _ h2
      simp only [and_self, ↓reduceIte] at h
      split at h
      · simp only [Option.some.injEq, Prod.mk.injEq, true_and] at h
        obtain ⟨rfl, hX, rfl⟩ := h
        have hX : X = X2 ++ [sNot] := by rw [List.append_assoc] at hX; exact (List.append_cancel_left hX).symm
        subst hX
        rcases hR _ _ _ _ _ h2 with hR | hR
        · refine .inl fun K O0 hs hw => ?_
          have e1 := hR K O0 hs (by simp only [List.length_append, List.length_cons] at hw ⊢; omega)
          have hlo : (O0 ++ X2).length < 4398046511104 := by simp only [List.length_append, List.length_cons] at hw ⊢; omega
          simp only [rnotF, List.cons_append, rtk_yes, e1, Option.bind_some, and_self, ↓reduceIte, hlo, List.append_assoc]
        · refine .inr fun K O0 hs hw => ?_
          obtain ⟨L4, O4, d4, e1, w⟩ := hR K O0 hs (by simp only [List.length_append, List.length_cons] at hw ⊢; omega)
          refine ⟨L4, O4, d4, ?_, by simp only [List.length_append, List.length_cons] at w ⊢; omega⟩
          simp only [rnotF, List.cons_append, rtk_yes, e1, Option.bind_some, h8, false_and, ↓reduceIte]
      · cases h
    · rw [if_neg (fun h => e0 h.1)] at h
      simp only [Option.some.injEq, Prod.mk.injEq] at h
      exact absurd h.1 e0
  · simp only [Bool.false_eq_true, and_false, ↓reduceIte, Option.some.injEq, Prod.mk.injEq] at h
    obtain ⟨rfl, rfl, rfl, rfl⟩ := h
    have hl := (hS _ _ _ _ _ h2).2.1
    have hrt : ∀ K, rtk sNot (L ++ K) = (false, L ++ K) := fun K => rtk_no (append_ne hne (fun e => by rw [e] at hl; simp at hl))
    rcases hR _ _ _ _ _ h2 with hR | hR
    · refine .inl fun K O0 hs hw => ?_
      simp only [rnotF, hrt, hR K O0 hs hw, Option.bind_some, Bool.false_eq_true, and_false, ↓reduceIte]
    · refine .inr fun K O0 hs hw => ?_
      obtain ⟨L4, O4, d4, e1, w⟩ := hR K O0 hs hw
      refine ⟨L4, O4, d4, ?_, w⟩
      simp only [rnotF, hrt, e1, Option.bind_some, Bool.false_eq_true, and_false, ↓reduceIte]
theorem s2_loop (sg : ByteArray) (f : Bool → Bool → Bool) (ho : Opr sg f) (R R' : Rt → Option (Int × Rt)) (d d' : Int) (hS : S1 R d) (hR : S2 R R' d d') : ∀ (k : Nat) (L O L1 X : List ByteArray) (d1 : Int), rlistL sg R k 0 (L, O, d) = some (0, L1, O ++ X, d1) →
    (∀ K O0, Stop L1 K → O0.length + (L ++ K).length ≤ 8192 → rlistL sg R' k 0 (L ++ K, O0, d') = some (0, L1 ++ K, O0 ++ X, d')) ∨
    (∀ K O0, Stop L1 K → O0.length + (L ++ K).length ≤ 8192 → ∃ L2 O2 d2, rlistL sg R' k 0 (L ++ K, O0, d') = some (8, L2, O2, d2) ∧ O2.length + L2.length ≤ O0.length + (L ++ K).length)
  | 0, L, O, L1, X, d1, h => by simp [rlistL] at h
  | k + 1, L, O, L1, X, d1, h => by
    obtain ⟨b, T, ht⟩ : ∃ b T, rtk sg L = (b, T) := ⟨_, _, rfl⟩
    simp only [rlistL, ht, ↓reduceIte] at h
    rcases rtk_cases ht with ⟨rfl, rfl⟩ | ⟨rfl, rfl, hne⟩
    · simp only [↓reduceIte] at h
      obtain ⟨⟨e, L2, O2, d2⟩, h2, h⟩ := Option.bind_eq_some_iff.mp h
      simp only at h
      split at h
      · by_cases e0 : e = 0
        · subst e0
          obtain ⟨rfl, hl, he, X2, rfl, hw2, hv⟩ := hS _ _ _ _ _ h2
          obtain ⟨_, hl3, _, X3, hX, hw3, _⟩ := s1_loop sg f ho R d2 hS k _ _ _ _ _ h
          have hX : X = X2 ++ [sg] ++ X3 := by simp only [List.append_assoc] at hX ⊢; exact List.append_cancel_left hX
          subst hX
          have hst : ∀ K, Stop L1 K → Stop L2 K := fun K hs e => hs (by rw [e] at hl3; exact List.eq_nil_of_length_eq_zero (by simpa using hl3))
          have h' : rlistL sg R k 0 (L2, O ++ X2 ++ [sg], d2) = some (0, L1, O ++ X2 ++ [sg] ++ X3, d1) := by rw [h]; simp only [List.append_assoc]
          rcases hR _ _ _ _ _ h2 with hR1 | hR1
          · have hst2 : ∀ K O0, O0.length + (sg :: T ++ K).length ≤ 8192 → (O0 ++ X2 ++ [sg]).length + (L2 ++ K).length ≤ 8192 := fun K O0 hw => by
              simp only [List.length_append, List.length_cons, List.length_nil] at hw ⊢
              omega
            rcases s2_loop sg f ho R R' d2 d' hS hR k _ _ _ _ _ h' with ih | ih
            · refine .inl fun K O0 hs hw => ?_
              have e1 := hR1 K O0 (hst K hs) (by simp only [List.length_append, List.length_cons] at hw ⊢; omega)
              have e2 := ih K (O0 ++ X2 ++ [sg]) hs (hst2 K O0 hw)
              have hlo : (O0 ++ X2).length < 4398046511104 := by simp only [List.length_append, List.length_cons] at hw ⊢; omega
              simp only [rlistL, List.cons_append, rtk_yes, ↓reduceIte, e1, Option.bind_some, hlo, e2]
              simp only [List.append_assoc]
            · refine .inr fun K O0 hs hw => ?_
              have e1 := hR1 K O0 (hst K hs) (by simp only [List.length_append, List.length_cons] at hw ⊢; omega)
              obtain ⟨L4, O4, d4, e2, w⟩ := ih K (O0 ++ X2 ++ [sg]) hs (hst2 K O0 hw)
              have hlo : (O0 ++ X2).length < 4398046511104 := by simp only [List.length_append, List.length_cons] at hw ⊢; omega
              refine ⟨L4, O4, d4, ?_, by simp only [List.length_append, List.length_cons, List.length_nil] at w ⊢; omega⟩
              simp only [rlistL, List.cons_append, rtk_yes, ↓reduceIte, e1, Option.bind_some, hlo, e2]
          · refine .inr fun K O0 hs hw => ?_
            obtain ⟨L4, O4, d4, e1, w⟩ := hR1 K O0 (hst K hs) (by simp only [List.length_append, List.length_cons] at hw ⊢; omega)
            have hlo : O4.length < 4398046511104 := by simp only [List.length_append, List.length_cons] at hw w ⊢; omega
            have h8 : ¬ ((8 : Int) = 0) := by omega
            cases k with
            | zero => simp [rlistL] at h
            | succ k =>
              refine ⟨L4, O4 ++ [sg], d4, ?_, by simp only [List.length_append, List.length_cons, List.length_nil] at w ⊢; omega⟩
              simp only [rlistL, List.cons_append, rtk_yes, ↓reduceIte, e1, Option.bind_some, hlo, h8]
        · cases k with
          | zero => simp [rlistL] at h
          | succ k =>
            simp only [rlistL, e0, ↓reduceIte, Option.some.injEq, Prod.mk.injEq] at h
            exact absurd h.1 (by simp)
      · cases h
    · simp only [Bool.false_eq_true, ↓reduceIte, Option.some.injEq, Prod.mk.injEq, true_and] at h
      obtain ⟨rfl, hX, _⟩ := h
      have hX : X = [] := by simpa using hX
      subst hX
      refine .inl fun K O0 hs hw => ?_
      have hrt : rtk sg (L ++ K) = (false, L ++ K) := rtk_no (append_ne hne (fun e t e2 => by
        rcases hs e with rfl | ⟨r, rfl⟩
        · cases e2
        · exact ho.ne.1 (List.cons.inj e2).1.symm))
      simp only [rlistL, hrt, ↓reduceIte, Bool.false_eq_true, List.append_nil]
theorem s2_list (sg : ByteArray) (f : Bool → Bool → Bool) (ho : Opr sg f) (R R' : Rt → Option (Int × Rt)) (d d' : Int) (m : Nat) (hS : S1 R d) (hR : S2 R R' d d') : S2 (rlistF sg R m) (rlistF sg R' m) d d' := by
  intro L O L1 X d1 h
  unfold rlistF at h
  obtain ⟨⟨e, L2, O2, d2⟩, h2, h⟩ := Option.bind_eq_some_iff.mp h
  simp only at h
  by_cases e0 : e = 0
  · subst e0
    obtain ⟨rfl, hl, he, X2, rfl, hw2, hv⟩ := hS _ _ _ _ _ h2
    obtain ⟨_, hl3, _, X3, hX, hw3, _⟩ := s1_loop sg f ho R d2 hS m _ _ _ _ _ h
    have hX : X = X2 ++ X3 := by simp only [List.append_assoc] at hX ⊢; exact List.append_cancel_left hX
    subst hX
    have hst : ∀ K, Stop L1 K → Stop L2 K := fun K hs e => hs (by rw [e] at hl3; exact List.eq_nil_of_length_eq_zero (by simpa using hl3))
    have h' : rlistL sg R m 0 (L2, O ++ X2, d2) = some (0, L1, O ++ X2 ++ X3, d1) := by rw [h, List.append_assoc]
    rcases hR _ _ _ _ _ h2 with hR1 | hR1
    · have hst2 : ∀ K O0, O0.length + (L ++ K).length ≤ 8192 → (O0 ++ X2).length + (L2 ++ K).length ≤ 8192 := fun K O0 hw => by
        simp only [List.length_append] at hw ⊢
        omega
      rcases s2_loop sg f ho R R' d2 d' hS hR m _ _ _ _ _ h' with ih | ih
      · refine .inl fun K O0 hs hw => ?_
        simp only [rlistF, hR1 K O0 (hst K hs) hw, Option.bind_some, ih K (O0 ++ X2) hs (hst2 K O0 hw), List.append_assoc]
      · refine .inr fun K O0 hs hw => ?_
        obtain ⟨L4, O4, d4, e2, w⟩ := ih K (O0 ++ X2) hs (hst2 K O0 hw)
        refine ⟨L4, O4, d4, ?_, by simp only [List.length_append] at w hw ⊢; omega⟩
        simp only [rlistF, hR1 K O0 (hst K hs) hw, Option.bind_some, e2]
    · refine .inr fun K O0 hs hw => ?_
      obtain ⟨L4, O4, d4, e1, w⟩ := hR1 K O0 (hst K hs) hw
      have h8 : ¬ ((8 : Int) = 0) := by omega
      cases m with
      | zero => simp [rlistL] at h
      | succ m =>
        refine ⟨L4, O4, d4, ?_, w⟩
        simp only [rlistF, e1, Option.bind_some, rlistL, h8, ↓reduceIte]
  · cases m with
    | zero => simp [rlistL] at h
    | succ m =>
      simp only [rlistL, e0, ↓reduceIte, Option.some.injEq, Prod.mk.injEq] at h
      exact absurd h.1 (by simp)
theorem s2_all (m : Nat) : ∀ (n n' : Nat) (d d' : Int), 0 ≤ d' → d' ≤ 64 → 65 ≤ n' + d' → S2 (rpartF m n) (rpartF m n') d d'
  | 0, n', d, d', _, _, _ => fun L O L1 X d1 h => by simp [rpartF] at h
  | n + 1, 0, d, d', h0, h1, h2 => by omega
  | n + 1, n' + 1, d, d', h0, h1, h2 =>
    s2_part _ _ d d' h0 h1 (s1_list sOr _ opr_or _ _ m (s1_list sAnd _ opr_and _ _ m (s1_not _ _ (s1_all m n (d + 1))))) fun h3 =>
      s2_list sOr _ opr_or _ _ _ _ m (s1_list sAnd _ opr_and _ _ m (s1_not _ _ (s1_all m n (d + 1)))) (s2_list sAnd _ opr_and _ _ _ _ m (s1_not _ _ (s1_all m n (d + 1))) (s2_not _ _ _ _ (s1_all m n (d + 1)) (s2_all m n n' (d + 1) (d' + 1) (by omega) h3 (by omega))))
theorem s2_or (m n n' : Nat) (d d' : Int) (h0 : 0 ≤ d') (h1 : d' ≤ 64) (h2 : 65 ≤ n' + d') : S2 (rorF m n) (rorF m n') d d' :=
  s2_list sOr _ opr_or _ _ _ _ m (s1_list sAnd _ opr_and _ _ m (s1_not _ _ (s1_all m n d))) (s2_list sAnd _ opr_and _ _ _ _ m (s1_not _ _ (s1_all m n d)) (s2_not _ _ _ _ (s1_all m n d) (s2_all m n n' d d' h0 h1 h2)))
end Go.Proofs.Ytcpemjolabofnaa.PAll
