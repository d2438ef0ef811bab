/- Patterns of chapter 19: their parts, one behind the other, as a text is read. -/
import Derived.Test.YtdcbmpjofacbhaaGlA
import Derived.Test.YtdcbmpjofacbhaaPAllx6
namespace Go.Proofs.Ytdcbmpjofacbhaa.Fr
open Go Go.RowKit Go.Proofs.Ytdcbmpjofacbhaa.PAll Go.Proofs.YtdcbmpjofacbhaaW.PrintWords Go.Proofs.YtdcbmpjofacbhaaW.PrintLast Go.Proofs.YtdcbmpjofacbhaaPw
theorem bytes_nil {s : ByteArray} : s.toList = ([] : List UInt8) ↔ bytesOf s = [] := by
  rw [ba_toList]
  unfold bytesOf
  rw [List.map_eq_nil_iff]
theorem bytes_cons {s : ByteArray} {c : Int} {t : List Int} (h : bytesOf s = c :: t) : 0 < s.size ∧ bt s 0 = c ∧ s.extract 1 s.size = strOfNums t ∧ Byt t := by
  have hl := bytesOf_length s
  have hb := byt_bytesOf s
  rw [h] at hl hb
  rw [List.length_cons] at hl
  have hbt : Byt t := fun x hx => hb x (by simp [hx])
  refine ⟨by omega, ?_, bytes_inj ?_, hbt⟩
  · have := bytesOf_getD s 0
    rw [h] at this
    exact this.symm
  · rw [bytes_str hbt, bytesOf_extract, h, ← hl]
    simp
/-- A sign of a pattern, perhaps behind a \, and what stands behind it. -/
def oneL : List Int → Option (Int × List Int)
  | [] => none
  | c :: t => if c = 92 then (match t with | [] => none | d :: u => some (d, u)) else some (c, t)
theorem oneL_cons (c : Int) (t : List Int) : oneL (c :: t) = if c = 92 then (match t with | [] => none | d :: u => some (d, u)) else some (c, t) := rfl
theorem one_eq (s : ByteArray) : glob_one.f s = match oneL (bytesOf s) with | some (c, t) => some (c, strOfNums t, true) | none => some (0, (⟨#[]⟩ : ByteArray), false) := by
  unfold glob_one.f
  cases e : bytesOf s with
  | nil => rw [if_pos (bytes_nil.2 e)]; rfl
  | cons c t =>
    obtain ⟨h1, h2, h3, h4⟩ := bytes_cons e
    rw [if_neg (fun h => by rw [bytes_nil.1 h] at e; cases e), if_pos (by omega), h2, h3]
    by_cases c92 : c = 92
    · rw [if_pos c92, if_pos (by omega)]
      cases t with
      | nil => rw [if_pos (by rw [bytes_nil, bytes_str h4])]; simp [oneL, c92]
      | cons d u =>
        have e2 : bytesOf (strOfNums (d :: u)) = d :: u := bytes_str h4
        obtain ⟨g1, g2, g3, g4⟩ := bytes_cons e2
        rw [if_neg (fun h => by rw [bytes_nil.1 h] at e2; cases e2), if_pos (by omega), if_pos (by omega), g2, g3]
        simp [oneL, c92]
    · rw [if_neg c92, if_pos (by omega)]
      simp [oneL, c92]
theorem one_byt {l t : List Int} {c : Int} (hb : Byt l) (h : oneL l = some (c, t)) : Byt t ∧ t.length < l.length ∧ 0 ≤ c ∧ c < 256 := by
  match l with
  | [] => cases h
  | x :: l =>
    rw [oneL_cons] at h
    have hx := hb x (by simp)
    by_cases e : x = 92
    · rw [if_pos e] at h
      match l with
      | [] => cases h
      | y :: l =>
        have hy := hb y (by simp)
        injection h with h
        injection h with h1 h2
        subst h1; subst h2
        exact ⟨fun z hz => hb z (by simp [hz]), by simp only [List.length_cons]; omega, hy.1, hy.2⟩
    · rw [if_neg e] at h
      injection h with h
      injection h with h1 h2
      subst h1; subst h2
      exact ⟨fun z hz => hb z (by simp [hz]), by simp, hx.1, hx.2⟩
theorem one_append {l t : List Int} {c : Int} (h : oneL l = some (c, t)) (m : List Int) : oneL (l ++ m) = some (c, t ++ m) := by
  match l with
  | [] => cases h
  | x :: l =>
    rw [List.cons_append, oneL_cons]
    rw [oneL_cons] at h
    by_cases e : x = 92
    · rw [if_pos e] at h ⊢
      match l with
      | [] => cases h
      | y :: l =>
        injection h with h
        injection h with h1 h2
        subst h1; subst h2
        rfl
    · rw [if_neg e] at h ⊢
      injection h with h
      injection h with h1 h2
      subst h1; subst h2
      rfl
/-- A range of a class, and what stands behind it. -/
def rngL (l : List Int) : Option (S43 × List Int) :=
  if l.head? = none ∨ l.head? = some 93 ∨ l.head? = some 45 then none else
    match oneL l with
    | none => none
    | some (lo, rest) =>
      if rest.head? = some 45 then
        if rest.length < 2 ∨ rest.getD 1 0 = 93 ∨ rest.getD 1 0 = 45 then none else
          match oneL rest.tail with
          | none => none
          | some (hi, rest2) => if hi < lo then none else some (⟨lo, hi⟩, rest2)
      else some (⟨lo, lo⟩, rest)
theorem rng_byt {l t : List Int} {r : S43} (hb : Byt l) (h : rngL l = some (r, t)) : Byt t ∧ t.length < l.length := by
  unfold rngL at h
  split at h
  · cases h
  split at h
  · cases h
  rename_i lo rest h1
  have b1 := one_byt hb h1
  split at h
  · split at h
    · cases h
    split at h
    · cases h
    rename_i hi rest2 h2
    have b2 := one_byt (l := rest.tail) (fun z hz => b1.1 z (List.mem_of_mem_tail hz)) h2
    split at h
    · cases h
    injection h with h
    injection h with _ h
    subst h
    have := List.length_tail (l := rest)
    exact ⟨b2.1, by omega⟩
  · injection h with h
    injection h with _ h
    subst h
    exact ⟨b1.1, b1.2.1⟩
theorem head_append {l m : List Int} (h : l ≠ []) : (l ++ m).head? = l.head? := by
  cases l with
  | nil => exact absurd rfl h
  | cons x l => rfl
theorem rng_append {l t : List Int} {r : S43} (h : rngL l = some (r, t)) (ht : t ≠ []) (m : List Int) : rngL (l ++ m) = some (r, t ++ m) := by
  unfold rngL at h ⊢
  split at h
  · cases h
  rename_i h0
  have hl : l ≠ [] := fun e => h0 (.inl (by rw [e]; rfl))
  rw [head_append hl, if_neg h0]
  split at h
  · cases h
  rename_i lo rest h1
  rw [one_append h1 m]
  dsimp only
  split at h
  · rename_i h2
    have hr : rest ≠ [] := fun e => by rw [e] at h2; cases h2
    rw [head_append hr, if_pos h2]
    split at h
    · cases h
    rename_i h3
    split at h
    · cases h
    rename_i hi rest2 h4
    have e1 : (rest ++ m).getD 1 0 = rest.getD 1 0 := by
      rw [List.getD_eq_getElem?_getD, List.getD_eq_getElem?_getD, List.getElem?_append_left (by omega)]
    have e2 : (rest ++ m).tail = rest.tail ++ m := by
      cases rest with
      | nil => exact absurd rfl hr
      | cons x rest => rfl
    rw [if_neg (by rw [e1, List.length_append]; omega), e2, one_append h4 m]
    dsimp only
    split at h
    · cases h
    rename_i h5
    rw [if_neg h5]
    injection h with h
    injection h with h6 h7
    rw [h6, h7]
  · rename_i h2
    injection h with h
    injection h with h6 h7
    subst h7
    rw [head_append ht, if_neg h2, h6]
/-- So many ranges, and a ]. -/
def Cls : List S43 → List Int → List Int → Prop
  | [], l, rest => l = 93 :: rest
  | r :: rs, l, rest => ∃ t, rngL l = some (r, t) ∧ Cls rs t rest
theorem cls_append : ∀ (rs : List S43) (l rest m : List Int), Cls rs l rest → Cls rs (l ++ m) (rest ++ m)
  | [], l, rest, m, h => by
    have h : l = 93 :: rest := h
    show l ++ m = 93 :: (rest ++ m)
    rw [h]
    rfl
  | r :: rs, l, rest, m, ⟨t, h1, h2⟩ => by
    refine ⟨t ++ m, rng_append h1 (fun e => ?_) m, cls_append rs t rest m h2⟩
    subst e
    cases rs with
    | nil =>
      have h2 : ([] : List Int) = 93 :: rest := h2
      cases h2
    | cons r2 rs =>
      obtain ⟨t2, h3, _⟩ := h2
      simp [rngL] at h3
theorem rng_head {l t : List Int} {r : S43} (h : rngL l = some (r, t)) : l.head? ≠ none ∧ l.head? ≠ some 93 := by
  unfold rngL at h
  split at h
  · cases h
  rename_i h0
  exact ⟨fun e => h0 (.inl e), fun e => h0 (.inr (.inl e))⟩
/-- What a class's text is told as, from some ranges on. -/
theorem class_l0 (st nt : Bool) : ∀ (n : Nat) (l : List Int) (first : Bool) (acc : List S43), l.length ≤ n → n ≤ 65536 → Byt l → acc.length + l.length ≤ 65536 →
    (∃ rs rest, (first = true → rs ≠ []) ∧ Cls rs l rest ∧ Byt rest ∧ rs.length + rest.length < l.length ∧ Ev (fun k => glob_class.l0 k (strOfNums l) first st nt acc) (st, nt, acc ++ rs, strOfNums rest, true)) ∨
    ((∀ rs rest, (first = true → rs ≠ []) → ¬ Cls rs l rest) ∧ ∃ a b c d, Ev (fun k => glob_class.l0 k (strOfNums l) first st nt acc) (a, b, c, d, false)) := by
  intro n
  induction n with
  | zero =>
    intro l first acc hl _ hb _
    obtain rfl : l = [] := List.eq_nil_of_length_eq_zero (by omega)
    right
    refine ⟨fun rs rest _ h => ?_, ?_⟩
    · cases rs with
      | nil => have h : ([] : List Int) = 93 :: rest := h; cases h
      | cons r rs => obtain ⟨t, h, _⟩ := h; exact (rng_head h).1 rfl
    · have e : (strOfNums ([] : List Int)).toList = ([] : List UInt8) := by rw [bytes_nil, bytes_str hb]
      have go : Ev (fun k => glob_class.j3 k (strOfNums ([] : List Int)) true st nt acc) (st, nt, acc, (⟨#[]⟩ : ByteArray), false) :=
        Ev.step (fun _ => glob_class.j3.eq_2 ..) (ev_pos rfl (ev_pos e (Ev.step (fun _ => glob_class.j4.eq_2 ..) (ev_pos rfl (Ev.now _)))))
      refine ⟨st, nt, acc, (⟨#[]⟩ : ByteArray), Ev.step (fun _ => glob_class.l0.eq_2 ..) ?_⟩
      · cases first with
        | true => exact ev_pos rfl go
        | false => exact ev_neg (by simp) (ev_pos e go)
  | succ n ih =>
    intro l first acc hl hn hb hacc
    -- a round that is not the end
    have round : ¬ (first = false ∧ l.head? = some 93) →
        (∃ rs rest, (first = true → rs ≠ []) ∧ Cls rs l rest ∧ Byt rest ∧ rs.length + rest.length < l.length ∧ Ev (fun k => glob_class.j3 k (strOfNums l) true st nt acc) (st, nt, acc ++ rs, strOfNums rest, true)) ∨
        ((∀ rs rest, (first = true → rs ≠ []) → ¬ Cls rs l rest) ∧ ∃ a b c d, Ev (fun k => glob_class.j3 k (strOfNums l) true st nt acc) (a, b, c, d, false)) := by
      intro hne
      have none_of : rngL l = none → ∀ rs rest, (first = true → rs ≠ []) → ¬ Cls rs l rest := fun h rs rest hr hc => by
        cases rs with
        | nil =>
          have hc : l = 93 :: rest := hc
          cases first with
          | true => exact hr rfl rfl
          | false => exact hne ⟨rfl, by rw [hc]; rfl⟩
        | cons r rs => obtain ⟨t, h1, _⟩ := hc; rw [h] at h1; cases h1
      have next : ∀ (r : S43) (t : List Int), rngL l = some (r, t) → ∀ X : Nat → Option (Bool × Bool × (List (S43)) × ByteArray × Bool), (∀ R, Ev (fun k => glob_class.l0 k (strOfNums t) false st nt (acc ++ [r])) R → Ev X R) →
          (∃ rs rest, (first = true → rs ≠ []) ∧ Cls rs l rest ∧ Byt rest ∧ rs.length + rest.length < l.length ∧ Ev X (st, nt, acc ++ rs, strOfNums rest, true)) ∨ ((∀ rs rest, (first = true → rs ≠ []) → ¬ Cls rs l rest) ∧ ∃ a b c d, Ev X (a, b, c, d, false)) := by
        intro r t h1 X hX
        have hb2 := rng_byt hb h1
        rcases ih t false (acc ++ [r]) (by omega) (by omega) hb2.1 (by simp; omega) with ⟨rs, rest, _, h3, h4, h5, h6⟩ | ⟨h3, a, b, c, d, h6⟩
        · refine .inl ⟨r :: rs, rest, fun _ => by simp, ⟨t, h1, h3⟩, h4, by simp; omega, ?_⟩
          have := hX _ h6
          simpa using this
        · refine .inr ⟨fun rs rest hr hc => ?_, a, b, c, d, hX _ h6⟩
          cases rs with
          | nil =>
            have hc : l = 93 :: rest := hc
            exact (rng_head h1).2 (by rw [hc]; rfl)
          | cons r2 rs =>
            obtain ⟨t2, h7, h8⟩ := hc
            rw [h1] at h7
            injection h7 with h7
            injection h7 with _ h7
            subst h7
            exact h3 rs rest (fun h => by cases h) h8
      have bad4 : ∃ a b c d, Ev (fun k => glob_class.j4 k (strOfNums l) true st nt acc) (a, b, c, d, false) := ⟨_, _, _, _, Ev.step (fun _ => glob_class.j4.eq_2 ..) (ev_pos rfl (Ev.now _))⟩
      cases l with
      | nil =>
        have e : (strOfNums ([] : List Int)).toList = ([] : List UInt8) := by rw [bytes_nil, bytes_str hb]
        obtain ⟨a, b, c, d, h⟩ := bad4
        exact .inr ⟨none_of rfl, a, b, c, d, Ev.step (fun _ => glob_class.j3.eq_2 ..) (ev_pos rfl (ev_pos e h))⟩
      | cons x l1 =>
        have hs : bytesOf (strOfNums (x :: l1)) = x :: l1 := bytes_str hb
        obtain ⟨g1, g2, g3, g4⟩ := bytes_cons hs
        have hnil : ¬ (strOfNums (x :: l1)).toList = ([] : List UInt8) := fun h => by rw [bytes_nil.1 h] at hs; cases hs
        by_cases x93 : x = 93
        · subst x93
          obtain ⟨a, b, c, d, h⟩ := bad4
          exact .inr ⟨none_of (by simp [rngL]), a, b, c, d, Ev.step (fun _ => glob_class.j3.eq_2 ..) (ev_pos rfl (ev_neg hnil (ev_pos (by omega) (ev_pos g2 h))))⟩
        by_cases x45 : x = 45
        · subst x45
          obtain ⟨a, b, c, d, h⟩ := bad4
          refine .inr ⟨none_of (by simp [rngL]), a, b, c, d, Ev.step (fun _ => glob_class.j3.eq_2 ..) (ev_pos rfl (ev_neg hnil (ev_pos (by omega) (ev_neg (by rw [g2]; omega) ?_))))⟩
          rw [g2]
          exact h
        have h0 : ¬ ((x :: l1).head? = none ∨ (x :: l1).head? = some 93 ∨ (x :: l1).head? = some 45) := by simp [x93, x45]
        have to4 : ∀ R, Ev (fun k => glob_class.j4 k (strOfNums (x :: l1)) false st nt acc) R → Ev (fun k => glob_class.j3 k (strOfNums (x :: l1)) true st nt acc) R := fun R h => by
          refine Ev.step (fun _ => glob_class.j3.eq_2 ..) (ev_pos rfl (ev_neg hnil (ev_pos (by omega) (ev_neg (by rw [g2]; exact x93) ?_))))
          rw [g2, show (x == 45) = false by simp [x45]]
          exact h
        have h1 := one_eq (strOfNums (x :: l1))
        rw [hs] at h1
        cases ho : oneL (x :: l1) with
        | none =>
          rw [ho] at h1
          exact .inr ⟨none_of (by unfold rngL; rw [if_neg h0, ho]), _, _, _, _, to4 _ (Ev.step (fun _ => glob_class.j4.eq_2 ..) (ev_neg (by simp) (ev_call (ev_eq h1) (ev_neg (by simp) (Ev.now _)))))⟩
        | some v =>
          obtain ⟨lo, rest⟩ := v
          rw [ho] at h1
          have hb1 := one_byt hb ho
          have hsr : bytesOf (strOfNums rest) = rest := bytes_str hb1.1
          have hrl : rest.length ≤ 65536 := by omega
          have to5 : ∀ (b : Bool) R, (b = decide (rest.head? = some 45)) → Ev (fun k => glob_class.j5 k lo (strOfNums rest) lo b st nt acc) R → Ev (fun k => glob_class.j3 k (strOfNums (x :: l1)) true st nt acc) R := fun b R hbb h => by
            refine to4 R (Ev.step (fun _ => glob_class.j4.eq_2 ..) (ev_neg (by simp) (ev_call (ev_eq h1) (ev_pos rfl ?_))))
            cases rest with
            | nil =>
              rw [show b = false by rw [hbb]; rfl] at h
              exact ev_pos (bytes_nil.2 hsr) h
            | cons y rest =>
              obtain ⟨k1, k2, k3, k4⟩ := bytes_cons hsr
              refine ev_neg (fun h => by rw [bytes_nil.1 h] at hsr; cases hsr) (ev_pos (by dsimp only; omega) ?_)
              dsimp only
              rw [k2, show (y == 45) = b by rw [hbb]; by_cases e : y = 45 <;> simp [e]]
              exact h
          by_cases h45 : rest.head? = some 45
          · cases rest with
            | nil => cases h45
            | cons y rest =>
              have hy : y = 45 := by simpa using h45
              subst hy
              obtain ⟨k1, k2, k3, k4⟩ := bytes_cons hsr
              have hsz : (strOfNums (45 :: rest)).size = rest.length + 1 := by rw [strOfNums_size]; rfl
              have bad6 : rngL (x :: l1) = none → Ev (fun k => glob_class.j6 k lo (strOfNums (45 :: rest)) true st nt acc) (st, nt, acc, (⟨#[]⟩ : ByteArray), false) := fun _ => Ev.step (fun _ => glob_class.j6.eq_2 ..) (ev_pos rfl (Ev.now _))
              by_cases hcut : (45 :: rest).length < 2 ∨ (45 :: rest).getD 1 0 = 93 ∨ (45 :: rest).getD 1 0 = 45
              · have hn0 : rngL (x :: l1) = none := by unfold rngL; rw [if_neg h0, ho]; dsimp only; rw [if_pos h45, if_pos hcut]
                refine .inr ⟨none_of hn0, st, nt, acc, (⟨#[]⟩ : ByteArray), to5 true _ (by rw [h45]; simp) (Ev.step (fun _ => glob_class.j5.eq_2 ..) (ev_pos rfl ?_))⟩
                cases rest with
                | nil => exact ev_pos (by rw [hsz]; simp) (bad6 hn0)
                | cons z rest =>
                  have hz1 : bt (strOfNums (45 :: z :: rest)) 1 = z := by
                    have := bytesOf_getD (strOfNums (45 :: z :: rest)) 1
                    rw [hsr] at this
                    exact this.symm
                  refine ev_neg (by rw [hsz]; simp; omega) (ev_pos (by rw [hsz]; simp; omega) ?_)
                  rw [hz1]
                  by_cases z93 : z = 93
                  · exact ev_pos z93 (bad6 hn0)
                  · refine ev_neg z93 ?_
                    have : z = 45 := by simp at hcut; omega
                    rw [show (z == 45) = true by simp [this]]
                    exact bad6 hn0
              · have hto6 : ∀ R, Ev (fun k => glob_class.j6 k lo (strOfNums (45 :: rest)) false st nt acc) R → Ev (fun k => glob_class.j5 k lo (strOfNums (45 :: rest)) lo true st nt acc) R := fun R h => by
                  refine Ev.step (fun _ => glob_class.j5.eq_2 ..) (ev_pos rfl ?_)
                  cases rest with
                  | nil => exact absurd (.inl (by simp)) hcut
                  | cons z rest =>
                    have hz1 : bt (strOfNums (45 :: z :: rest)) 1 = z := by
                      have := bytesOf_getD (strOfNums (45 :: z :: rest)) 1
                      rw [hsr] at this
                      exact this.symm
                    have hz : z ≠ 93 ∧ z ≠ 45 := by simp at hcut; omega
                    refine ev_neg (by rw [hsz]; simp; omega) (ev_pos (by rw [hsz]; simp; omega) ?_)
                    rw [hz1]
                    refine ev_neg hz.1 ?_
                    rw [show (z == 45) = false by simp [hz.2]]
                    exact h
                have h2 := one_eq (strOfNums rest)
                rw [bytes_str k4] at h2
                cases ho2 : oneL rest with
                | none =>
                  rw [ho2] at h2
                  have hn0 : rngL (x :: l1) = none := by unfold rngL; rw [if_neg h0, ho]; dsimp only; rw [if_pos h45, if_neg hcut, List.tail_cons, ho2]
                  refine .inr ⟨none_of hn0, st, nt, acc, (⟨#[]⟩ : ByteArray), to5 true _ (by rw [h45]; simp) (hto6 _ (Ev.step (fun _ => glob_class.j6.eq_2 ..) (ev_neg (by simp) (ev_pos (by omega) ?_))))⟩
                  rw [k3]
                  exact ev_call (ev_eq h2) (ev_neg (by simp) (Ev.now _))
                | some v2 =>
                  obtain ⟨hi, rest2⟩ := v2
                  rw [ho2] at h2
                  by_cases hlt : hi < lo
                  · have hn0 : rngL (x :: l1) = none := by unfold rngL; rw [if_neg h0, ho]; dsimp only; rw [if_pos h45, if_neg hcut, List.tail_cons, ho2]; dsimp only; rw [if_pos hlt]
                    refine .inr ⟨none_of hn0, st, nt, acc, (⟨#[]⟩ : ByteArray), to5 true _ (by rw [h45]; simp) (hto6 _ (Ev.step (fun _ => glob_class.j6.eq_2 ..) (ev_neg (by simp) (ev_pos (by omega) ?_))))⟩
                    rw [k3]
                    exact ev_call (ev_eq h2) (ev_pos rfl (ev_pos hlt (Ev.now _)))
                  · have hn0 : rngL (x :: l1) = some (⟨lo, hi⟩, rest2) := by unfold rngL; rw [if_neg h0, ho]; dsimp only; rw [if_pos h45, if_neg hcut, List.tail_cons, ho2]; dsimp only; rw [if_neg hlt]
                    refine next _ _ hn0 _ (fun R hR => to5 true R (by rw [h45]; simp) (hto6 R (Ev.step (fun _ => glob_class.j6.eq_2 ..) (ev_neg (by simp) (ev_pos (by omega) ?_)))))
                    rw [k3]
                    exact ev_call (ev_eq h2) (ev_pos rfl (ev_neg hlt (ev_pos (by omega) hR)))
          · have hn0 : rngL (x :: l1) = some (⟨lo, lo⟩, rest) := by unfold rngL; rw [if_neg h0, ho]; dsimp only; rw [if_neg h45]
            exact next _ _ hn0 _ (fun R hR => to5 false R (by simp [h45]) (Ev.step (fun _ => glob_class.j5.eq_2 ..) (ev_neg (by simp) (ev_neg (by omega) (ev_pos (by omega) hR)))))
    by_cases hend : first = false ∧ l.head? = some 93
    · obtain ⟨rfl, hh⟩ := hend
      cases l with
      | nil => cases hh
      | cons x rest =>
        have hx : x = 93 := by simpa using hh
        subst hx
        have hs : bytesOf (strOfNums (93 :: rest)) = 93 :: rest := bytes_str hb
        obtain ⟨g1, g2, g3, g4⟩ := bytes_cons hs
        refine .inl ⟨[], rest, (fun h => by cases h), rfl, g4, by simp, Ev.step (fun _ => glob_class.l0.eq_2 ..) (ev_neg (by simp) (ev_neg (fun h => by rw [bytes_nil.1 h] at hs; cases hs) (ev_pos (by omega) ?_)))⟩
        rw [g2]
        refine Ev.step (fun _ => glob_class.j3.eq_2 ..) (ev_neg (by simp) (ev_pos (by omega) (ev_ret ?_)))
        rw [g3, List.append_nil]
    · have hl0 : ∀ R, Ev (fun k => glob_class.j3 k (strOfNums l) true st nt acc) R → Ev (fun k => glob_class.l0 k (strOfNums l) first st nt acc) R := fun R h => by
        refine Ev.step (fun _ => glob_class.l0.eq_2 ..) ?_
        cases first with
        | true => exact ev_pos rfl h
        | false =>
          refine ev_neg (by simp) ?_
          cases l with
          | nil => exact ev_pos (by rw [bytes_nil, bytes_str hb]) h
          | cons x rest =>
            have hs : bytesOf (strOfNums (x :: rest)) = x :: rest := bytes_str hb
            obtain ⟨g1, g2, g3, g4⟩ := bytes_cons hs
            refine ev_neg (fun h => by rw [bytes_nil.1 h] at hs; cases hs) (ev_pos (by omega) ?_)
            have : x ≠ 93 := fun e => hend ⟨rfl, by simp [e]⟩
            rw [g2, show (x != 93) = true by simp [this]]
            exact h
      rcases round hend with ⟨rs, rest, h1, h2, h3, h4, h5⟩ | ⟨h1, a, b, c, d, h5⟩
      · exact .inl ⟨rs, rest, h1, h2, h3, h4, hl0 _ h5⟩
      · exact .inr ⟨h1, a, b, c, d, hl0 _ h5⟩
/-- A class behind its [. -/
def ClassL (l : List Int) (nt : Bool) (rs : List S43) (rest : List Int) : Prop := rs ≠ [] ∧ ((nt = true ∧ ∃ m, l = 94 :: m ∧ Cls rs m rest) ∨ (nt = false ∧ l.head? ≠ some 94 ∧ Cls rs l rest))
theorem class_ev (l : List Int) (hl : l.length ≤ 65536) (hb : Byt l) :
    (∃ nt rs rest, ClassL l nt rs rest ∧ Byt rest ∧ rs.length + rest.length < l.length ∧ Ev (fun k => glob_class.f k (strOfNums l)) (false, nt, rs, strOfNums rest, true)) ∨
    ((∀ nt rs rest, ¬ ClassL l nt rs rest) ∧ ∃ a b c d, Ev (fun k => glob_class.f k (strOfNums l)) (a, b, c, d, false)) := by
  by_cases h : l.head? = some 94
  · cases l with
    | nil => cases h
    | cons x m =>
      have hx : x = 94 := by simpa using h
      subst hx
      have hs : bytesOf (strOfNums (94 :: m)) = 94 :: m := bytes_str hb
      obtain ⟨g1, g2, g3, g4⟩ := bytes_cons hs
      have tof : ∀ R, Ev (fun k => glob_class.l0 k (strOfNums m) true false true []) R → Ev (fun k => glob_class.f k (strOfNums (94 :: m))) R := fun R hR => by
        refine ev_neg (fun h => by rw [bytes_nil.1 h] at hs; cases hs) (ev_pos (by omega) ?_)
        rw [g2]
        refine Ev.step (fun _ => glob_class.j0.eq_2 ..) (ev_pos rfl (ev_pos (by omega) ?_))
        rw [g3]
        exact Ev.step (fun _ => glob_class.j1.eq_2 ..) hR
      rcases class_l0 false true m.length m true [] (Nat.le_refl _) (by simp at hl; omega) g4 (by simp at hl ⊢; omega) with ⟨rs, rest, h1, h2, h3, h4, h5⟩ | ⟨h1, a, b, c, d, h5⟩
      · exact .inl ⟨true, rs, rest, ⟨h1 rfl, .inl ⟨rfl, m, rfl, h2⟩⟩, h3, by simp; omega, tof _ h5⟩
      · refine .inr ⟨fun nt rs rest hc => ?_, a, b, c, d, tof _ h5⟩
        rcases hc with ⟨h6, ⟨_, m', h7, h8⟩ | ⟨_, h7, _⟩⟩
        · injection h7 with _ h7
          subst h7
          exact h1 rs rest (fun _ => h6) h8
        · exact h7 rfl
  · have tof : ∀ R, Ev (fun k => glob_class.l0 k (strOfNums l) true false false []) R → Ev (fun k => glob_class.f k (strOfNums l)) R := fun R hR => by
      have fin : Ev (fun k => glob_class.j0 k (strOfNums l) false false false) R := Ev.step (fun _ => glob_class.j0.eq_2 ..) (ev_neg (by simp) (Ev.step (fun _ => glob_class.j1.eq_2 ..) hR))
      cases l with
      | nil => exact ev_pos (by rw [bytes_nil, bytes_str hb]) fin
      | cons x m =>
        have hs : bytesOf (strOfNums (x :: m)) = x :: m := bytes_str hb
        obtain ⟨g1, g2, g3, g4⟩ := bytes_cons hs
        refine ev_neg (fun h => by rw [bytes_nil.1 h] at hs; cases hs) (ev_pos (by omega) ?_)
        have : x ≠ 94 := fun e => h (by simp [e])
        rw [g2, show (x == 94) = false by simp [this]]
        exact fin
    rcases class_l0 false false l.length l true [] (Nat.le_refl _) (by omega) hb (by simp; omega) with ⟨rs, rest, h1, h2, h3, h4, h5⟩ | ⟨h1, a, b, c, d, h5⟩
    · exact .inl ⟨false, rs, rest, ⟨h1 rfl, .inr ⟨rfl, h, h2⟩⟩, h3, h4, tof _ h5⟩
    · refine .inr ⟨fun nt rs rest hc => ?_, a, b, c, d, tof _ h5⟩
      rcases hc with ⟨h6, ⟨_, m', h7, _⟩ | ⟨_, _, h8⟩⟩
      · exact h (by rw [h7]; rfl)
      · exact h1 rs rest (fun _ => h6) h8
theorem class_append {l rest : List Int} {nt : Bool} {rs : List S43} (h : ClassL l nt rs rest) (m : List Int) : ClassL (l ++ m) nt rs (rest ++ m) := by
  rcases h with ⟨h1, ⟨h2, l2, h3, h4⟩ | ⟨h2, h3, h4⟩⟩
  · exact ⟨h1, .inl ⟨h2, l2 ++ m, by rw [h3]; rfl, cls_append rs l2 rest m h4⟩⟩
  · refine ⟨h1, .inr ⟨h2, ?_, cls_append rs l rest m h4⟩⟩
    have hl : l ≠ [] := fun e => by
      subst e
      cases rs with
      | nil => exact h1 rfl
      | cons r rs => obtain ⟨t, h, _⟩ := h4; exact (rng_head h).1 rfl
    rw [head_append hl]
    exact h3
/-- A part of a pattern stands at its beginning, and this stands behind it. -/
def Item (p : S38) (l rest : List Int) : Prop :=
  (l = 42 :: rest ∧ p = ⟨true, false, []⟩) ∨ (l = 63 :: rest ∧ p = ⟨false, true, []⟩) ∨ (∃ l1 nt rs, l = 91 :: l1 ∧ p = ⟨false, nt, rs⟩ ∧ ClassL l1 nt rs rest) ∨
  (∃ c t d, l = c :: t ∧ c ≠ 42 ∧ c ≠ 63 ∧ c ≠ 91 ∧ oneL l = some (d, rest) ∧ p = ⟨false, false, [⟨d, d⟩]⟩)
def Parses : List S38 → List Int → Prop
  | [], l => l = []
  | p :: P, l => ∃ rest, Item p l rest ∧ Parses P rest
theorem item_append {p : S38} {l rest : List Int} (h : Item p l rest) (m : List Int) : Item p (l ++ m) (rest ++ m) := by
  rcases h with ⟨h1, h2⟩ | ⟨h1, h2⟩ | ⟨l1, nt, rs, h1, h2, h3⟩ | ⟨c, t, d, h1, h2, h3, h4, h5, h6⟩
  · exact .inl ⟨by rw [h1]; rfl, h2⟩
  · exact .inr (.inl ⟨by rw [h1]; rfl, h2⟩)
  · exact .inr (.inr (.inl ⟨l1 ++ m, nt, rs, by rw [h1]; rfl, h2, class_append h3 m⟩))
  · exact .inr (.inr (.inr ⟨c, t ++ m, d, by rw [h1]; rfl, h2, h3, h4, one_append h5 m, h6⟩))
theorem parses_append : ∀ (P Q : List S38) (l m : List Int), Parses P l → Parses Q m → Parses (P ++ Q) (l ++ m)
  | [], Q, l, m, h, k => by have h : l = [] := h; subst h; exact k
  | p :: P, Q, l, m, ⟨rest, h1, h2⟩, k => ⟨rest ++ m, item_append h1 m, parses_append P Q rest m h2 k⟩
def shortP (P : List S38) : Prop := (∀ p ∈ P, p.f2.length ≤ 65536) ∧ P.length ≤ 65536
theorem parse_l0 : ∀ (n : Nat) (l : List Int) (acc : List S38), l.length ≤ n → n ≤ 65536 → Byt l → acc.length + l.length ≤ 65536 →
    (∃ P, Parses P l ∧ (∀ p ∈ P, p.f2.length ≤ 65536) ∧ P.length ≤ l.length ∧ Ev (fun k => glob_parse.l0 k (strOfNums l) acc) (acc ++ P, 0)) ∨
    ((∀ P, ¬ Parses P l) ∧ Ev (fun k => glob_parse.l0 k (strOfNums l) acc) ([], 4)) := by
  intro n
  induction n with
  | zero =>
    intro l acc hl _ hb _
    obtain rfl : l = [] := List.eq_nil_of_length_eq_zero (by omega)
    exact .inl ⟨[], rfl, by simp, by simp, Ev.step (fun _ => glob_parse.l0.eq_2 ..) (ev_pos (by rw [bytes_nil, bytes_str hb]) (ev_ret (by simp)))⟩
  | succ n ih =>
    intro l acc hl hn hb hacc
    cases l with
    | nil => exact .inl ⟨[], rfl, by simp, by simp, Ev.step (fun _ => glob_parse.l0.eq_2 ..) (ev_pos (by rw [bytes_nil, bytes_str hb]) (ev_ret (by simp)))⟩
    | cons x t =>
      have hs : bytesOf (strOfNums (x :: t)) = x :: t := bytes_str hb
      obtain ⟨g1, g2, g3, g4⟩ := bytes_cons hs
      have hnil : ¬ (strOfNums (x :: t)).toList = ([] : List UInt8) := fun h => by rw [bytes_nil.1 h] at hs; cases hs
      simp only [List.length_cons] at hl hacc
      -- behind a part
      have next : ∀ (p : S38) (rest : List Int), Item p (x :: t) rest → (∀ q rest', Item q (x :: t) rest' → q = p ∧ rest' = rest) → rest.length ≤ t.length → Byt rest → p.f2.length ≤ 65536 →
          (∀ R, Ev (fun k => glob_parse.l0 k (strOfNums rest) (acc ++ [p])) R → Ev (fun k => glob_parse.l0 k (strOfNums (x :: t)) acc) R) →
          (∃ P, Parses P (x :: t) ∧ (∀ p ∈ P, p.f2.length ≤ 65536) ∧ P.length ≤ (x :: t).length ∧ Ev (fun k => glob_parse.l0 k (strOfNums (x :: t)) acc) (acc ++ P, 0)) ∨ ((∀ P, ¬ Parses P (x :: t)) ∧ Ev (fun k => glob_parse.l0 k (strOfNums (x :: t)) acc) ([], 4)) := by
        intro p rest h1 hu h2 h3 h4 h5
        rcases ih rest (acc ++ [p]) (by omega) (by omega) h3 (by simp; omega) with ⟨P, k1, k2, k3, k4⟩ | ⟨k1, k4⟩
        · refine .inl ⟨p :: P, ⟨rest, h1, k1⟩, fun q hq => ?_, by simp; omega, ?_⟩
          · rcases List.mem_cons.1 hq with rfl | hq
            · exact h4
            · exact k2 q hq
          · have := h5 _ k4
            simpa using this
        · refine .inr ⟨fun P hP => ?_, h5 _ k4⟩
          cases P with
          | nil => have hP : x :: t = [] := hP; cases hP
          | cons q P =>
            obtain ⟨rest', h6, h7⟩ := hP
            obtain ⟨_, rfl⟩ := hu q rest' h6
            exact k1 P h7
      have fail : (∀ p rest, ¬ Item p (x :: t) rest) → ∀ P, ¬ Parses P (x :: t) := fun h P hP => by
        cases P with
        | nil => have hP : x :: t = [] := hP; cases hP
        | cons p P => obtain ⟨rest, h1, _⟩ := hP; exact h p rest h1
      by_cases x42 : x = 42
      · subst x42
        refine next ⟨true, false, []⟩ t (.inl ⟨rfl, rfl⟩) ?_ (Nat.le_refl _) g4 (by simp) (fun R hR => ?_)
        · rintro q rest' (⟨h1, h2⟩ | ⟨h1, _⟩ | ⟨l1, nt, rs, h1, _⟩ | ⟨c, t', d, h1, h2, _⟩)
          · injection h1 with _ h1; exact ⟨h2, h1.symm⟩
          · injection h1 with h1; omega
          · injection h1 with h1; omega
          · injection h1 with h1; exact absurd h1.symm h2
        · refine Ev.step (fun _ => glob_parse.l0.eq_2 ..) (ev_neg hnil (ev_pos (by omega) (ev_pos g2 (ev_pos (by omega) (ev_pos (by omega) ?_)))))
          rw [g3]
          exact hR
      by_cases x63 : x = 63
      · subst x63
        refine next ⟨false, true, []⟩ t (.inr (.inl ⟨rfl, rfl⟩)) ?_ (Nat.le_refl _) g4 (by simp) (fun R hR => ?_)
        · rintro q rest' (⟨h1, _⟩ | ⟨h1, h2⟩ | ⟨l1, nt, rs, h1, _⟩ | ⟨c, t', d, h1, _, h2, _⟩)
          · injection h1 with h1; omega
          · injection h1 with _ h1; exact ⟨h2, h1.symm⟩
          · injection h1 with h1; omega
          · injection h1 with h1; exact absurd h1.symm h2
        · refine Ev.step (fun _ => glob_parse.l0.eq_2 ..) (ev_neg hnil (ev_pos (by omega) (ev_neg (by omega) (ev_pos g2 (ev_pos (by omega) (ev_pos (by omega) ?_))))))
          rw [g3]
          exact hR
      by_cases x91 : x = 91
      · subst x91
        have only : ∀ q rest', Item q (91 :: t) rest' → ∃ nt rs, q = ⟨false, nt, rs⟩ ∧ ClassL t nt rs rest' := by
          rintro q rest' (⟨h1, _⟩ | ⟨h1, _⟩ | ⟨l1, nt, rs, h1, h2, h3⟩ | ⟨c, t', d, h1, _, _, h2, _⟩)
          · injection h1 with h1; omega
          · injection h1 with h1; omega
          · injection h1 with _ h1; subst h1; exact ⟨nt, rs, h2, h3⟩
          · injection h1 with h1; exact absurd h1.symm h2
        have cuniq : ∀ (rs rs' : List S43) (l r r' : List Int), Cls rs l r → Cls rs' l r' → rs = rs' ∧ r = r' := by
          intro rs
          induction rs with
          | nil =>
            intro rs' l r r' h k
            have h : l = 93 :: r := h
            cases rs' with
            | nil => have k : l = 93 :: r' := k; rw [h] at k; injection k with _ k; exact ⟨rfl, k⟩
            | cons r2 rs' => obtain ⟨t, k, _⟩ := k; exact absurd (by rw [h]; rfl) (rng_head k).2
          | cons a rs ih2 =>
            intro rs' l r r' h k
            obtain ⟨t1, h1, h2⟩ := h
            cases rs' with
            | nil => have k : l = 93 :: r' := k; exact absurd (by rw [k]; rfl) (rng_head h1).2
            | cons r2 rs' =>
              obtain ⟨t2, k1, k2⟩ := k
              rw [h1] at k1
              injection k1 with k1
              injection k1 with k3 k4
              subst k3; subst k4
              obtain ⟨e1, e2⟩ := ih2 rs' t1 r r' h2 k2
              exact ⟨by rw [e1], e2⟩
        rcases class_ev t (by omega) g4 with ⟨nt, rs, rest, c1, c2, c3, c4⟩ | ⟨c1, a, b, c, d, c4⟩
        · refine next ⟨false, nt, rs⟩ rest (.inr (.inr (.inl ⟨t, nt, rs, rfl, rfl, c1⟩))) ?_ (by omega) c2 (by dsimp only; omega) (fun R hR => ?_)
          · intro q rest' hq
            obtain ⟨nt', rs', e1, e2⟩ := only q rest' hq
            have : nt' = nt ∧ rs' = rs ∧ rest' = rest := by
              rcases c1 with ⟨_, ⟨a1, m1, a2, a3⟩ | ⟨a1, a2, a3⟩⟩ <;> rcases e2 with ⟨_, ⟨b1, m2, b2, b3⟩ | ⟨b1, b2, b3⟩⟩
              · rw [a2] at b2
                injection b2 with _ b2
                subst b2
                obtain ⟨u1, u2⟩ := cuniq _ _ _ _ _ a3 b3
                exact ⟨by rw [a1, b1], u1.symm, u2.symm⟩
              · exact absurd (by rw [a2]; rfl) b2
              · exact absurd (by rw [b2]; rfl) a2
              · obtain ⟨u1, u2⟩ := cuniq _ _ _ _ _ a3 b3
                exact ⟨by rw [a1, b1], u1.symm, u2.symm⟩
            obtain ⟨rfl, rfl, rfl⟩ := this
            exact ⟨e1, rfl⟩
          · refine Ev.step (fun _ => glob_parse.l0.eq_2 ..) (ev_neg hnil (ev_pos (by omega) (ev_neg (by omega) (ev_neg (by omega) (ev_pos g2 (ev_pos (by omega) ?_))))))
            rw [g3]
            exact ev_call c4 (ev_pos rfl (ev_pos (by omega) hR))
        · refine .inr ⟨fail (fun p rest h => ?_), ?_⟩
          · obtain ⟨nt, rs, _, h2⟩ := only p rest h
            exact c1 nt rs rest h2
          · refine Ev.step (fun _ => glob_parse.l0.eq_2 ..) (ev_neg hnil (ev_pos (by omega) (ev_neg (by omega) (ev_neg (by omega) (ev_pos g2 (ev_pos (by omega) ?_))))))
            rw [g3]
            exact ev_call c4 (ev_neg (by simp) (Ev.now _))
      have only : ∀ q rest', Item q (x :: t) rest' → ∃ d, oneL (x :: t) = some (d, rest') ∧ q = ⟨false, false, [⟨d, d⟩]⟩ := by
        rintro q rest' (⟨h1, _⟩ | ⟨h1, _⟩ | ⟨l1, nt, rs, h1, _⟩ | ⟨c, t', d, h1, _, _, _, h2, h3⟩)
        · injection h1 with h1; exact absurd h1 x42
        · injection h1 with h1; exact absurd h1 x63
        · injection h1 with h1; exact absurd h1 x91
        · exact ⟨d, h2, h3⟩
      have h1 := one_eq (strOfNums (x :: t))
      rw [hs] at h1
      have go : ∀ R, Ev (fun k => ((glob_one.f (strOfNums (x :: t))).bind fun bt132 => (if bt132.2.2 = true then (if acc.length < 4398046511104 then (glob_parse.l0 k bt132.2.1 (acc ++ [(⟨false, false, (([(⟨bt132.1, bt132.1⟩ : S43)] : List (S43)))⟩ : S38)])) else (none)) else (some (([] : List (S38)), 4))))) R → Ev (fun k => glob_parse.l0 k (strOfNums (x :: t)) acc) R := fun R hR =>
        Ev.step (fun _ => glob_parse.l0.eq_2 ..) (ev_neg hnil (ev_pos (by omega) (ev_neg (by omega) (ev_neg (by omega) (ev_neg (by omega) hR)))))
      cases ho : oneL (x :: t) with
      | none =>
        rw [ho] at h1
        refine .inr ⟨fail (fun p rest h => ?_), go _ (ev_call (ev_eq h1) (ev_neg (by simp) (Ev.now _)))⟩
        obtain ⟨d, h2, _⟩ := only p rest h
        rw [ho] at h2
        cases h2
      | some v =>
        obtain ⟨d, rest⟩ := v
        rw [ho] at h1
        have hb1 := one_byt hb ho
        simp only [List.length_cons] at hb1
        refine next ⟨false, false, [⟨d, d⟩]⟩ rest (.inr (.inr (.inr ⟨x, t, d, rfl, x42, x63, x91, ho, rfl⟩))) ?_ (by omega) hb1.1 (by simp) (fun R hR => go R (ev_call (ev_eq h1) (ev_pos rfl (ev_pos (by omega) hR))))
        intro q rest' hq
        obtain ⟨d', e1, e2⟩ := only q rest' hq
        rw [ho] at e1
        injection e1 with e1
        injection e1 with e3 e4
        subst e3; subst e4
        exact ⟨e2, rfl⟩
/-- MATCH: a pattern's parts, if it is one, and whether they have the name. -/
theorem Match_ev (pat name : ByteArray) (hp : pat.size ≤ 65536) (hn : name.size ≤ 65536) :
    (∃ P r, Parses P (bytesOf pat) ∧ Ev (fun k => glob_Match.f k pat name) (r, 0) ∧ (r = true ↔ reach (bytesOf name) P 0 name.size)) ∨ ((∀ P, ¬ Parses P (bytesOf pat)) ∧ Ev (fun k => glob_Match.f k pat name) (false, 4)) := by
  have hl := bytesOf_length pat
  have h := parse_l0 (bytesOf pat).length (bytesOf pat) [] (Nat.le_refl _) (by omega) (byt_bytesOf pat) (by simp; omega)
  rw [str_bytes] at h
  rcases h with ⟨P, h1, h2, h3, h4⟩ | ⟨h1, h4⟩
  · obtain ⟨r, h5, h6⟩ := match_ev name hn P (fun p hp => by have := h2 p hp; omega) (by omega)
    rw [List.nil_append] at h4
    exact .inl ⟨P, r, h1, ev_call h4 (ev_pos rfl (ev_call h5 (Ev.now _))), h6⟩
  · exact .inr ⟨h1, ev_call h4 (ev_neg (by simp) (Ev.now _))⟩
end Go.Proofs.Ytdcbmpjofacbhaa.Fr
