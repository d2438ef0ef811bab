/- The program's parser and the reference's tell the same of every text. -/
import Derived.Test.YtcpemjolabofnaaExS
import Derived.Test.YtcpemjolabofnaaExR
namespace Go.Proofs.Ytcpemjolabofnaa.PAll
open Go Go.RowKit Go.Proofs.YtcpemjolabofnaaW.PrintWords Go.Proofs.YtcpemjolabofnaaW.PrintLast Go.Proofs.YtcpemjolabofnaaW.PrintMore Go.Proofs.YtcpemjolabofnaaMy Go.Proofs.Ytcpemjolabofnaa Go.Proofs.YtcpemjolabofnaaPw
set_option linter.unusedVariables false
set_option linter.unusedSimpArgs false
def P (l : List Int) : List ByteArray := (pcs l).map strOfNums
theorem P_nil : P [] = [] := rfl
theorem pcs_dropB : ∀ l, pcs (dropB l) = pcs l
  | [] => rfl
  | c :: l => by
    unfold dropB
    rw [List.dropWhile_cons]
    by_cases b : isB c = true
    · rw [if_pos b, pcs_cons, if_pos b]
      exact pcs_dropB l
    · rw [if_neg b]
theorem P_dropB (l : List Int) : P (dropB l) = P l := by unfold P; rw [pcs_dropB]
theorem dropB_cases (l : List Int) : dropB l = [] ∨ ∃ c r, dropB l = c :: r ∧ isB c = false := by
  induction l with
  | nil => exact .inl rfl
  | cons c l ih =>
    unfold dropB
    rw [List.dropWhile_cons]
    by_cases b : isB c = true
    · rw [if_pos b]
      exact ih
    · rw [if_neg b]
      exact .inr ⟨c, l, rfl, Bool.eq_false_iff.2 b⟩
theorem dropB_len (l : List Int) : (dropB l).length ≤ l.length := (List.dropWhile_sublist isB).length_le
theorem dropB_twice (l : List Int) : dropB (dropB l) = dropB l := by
  rcases dropB_cases l with h | ⟨c, r, h, hb⟩
  · rw [h]; rfl
  · rw [h]
    unfold dropB
    rw [List.dropWhile_cons, if_neg (by rw [hb]; simp)]
theorem byt_suffix {a b : List Int} (h : Byt b) (hs : a <:+ b) : Byt a := fun x hx => h x (hs.subset hx)
theorem byt_dropB {l : List Int} (h : Byt l) : Byt (dropB l) := byt_suffix h (List.dropWhile_suffix _)
theorem byt_cons {c : Int} {l : List Int} (h : Byt (c :: l)) : Byt l := fun x hx => h x (List.mem_cons_of_mem _ hx)
theorem pcsN_byt : ∀ (k : Nat) (l : List Int), Byt l → ∀ p ∈ pcsN k l, Byt p
  | 0, l, h, p, hp => by simp [pcsN] at hp
  | k + 1, [], h, p, hp => by simp [pcsN] at hp
  | k + 1, c :: l, h, p, hp => by
    have hc := h c List.mem_cons_self
    simp only [pcsN] at hp
    split at hp
    · exact pcsN_byt k l (byt_cons h) p hp
    · split at hp
      · rcases List.mem_cons.1 hp with rfl | hp
        · exact fun x hx => h x ((List.takeWhile_prefix isT).subset hx)
        · exact pcsN_byt k _ (byt_suffix h (List.dropWhile_suffix _)) p hp
      · split at hp
        · rcases List.mem_cons.1 hp with rfl | hp
          · intro x hx
            rw [List.mem_singleton.1 hx]
            exact hc
          · exact pcsN_byt k l (byt_cons h) p hp
        · split at hp
          · rcases List.mem_cons.1 hp with rfl | hp
            · intro x hx
              have : x = c := by simpa using hx
              rw [this]
              exact hc
            · exact pcsN_byt k _ (byt_suffix (byt_cons h) (List.tail_suffix _)) p hp
          · rw [List.mem_singleton.1 hp]
            intro x hx
            simp at hx
theorem pcs_byt {l : List Int} (h : Byt l) : ∀ p ∈ pcs l, Byt p := pcsN_byt _ l h
theorem pcsN_len : ∀ (k : Nat) (l : List Int), (pcsN k l).length ≤ l.length
  | 0, l => by simp [pcsN]
  | k + 1, [] => by simp [pcsN]
  | k + 1, c :: l => by
    simp only [pcsN]
    have i1 := pcsN_len k l
    have i2 := pcsN_len k l.tail
    have i3 := pcsN_len k ((c :: l).dropWhile isT)
    have i4 : l.tail.length ≤ l.length := by simp
    split
    · simp only [List.length_cons]; omega
    · split
      · next t =>
        have : ((c :: l).dropWhile isT).length ≤ l.length := by rw [List.dropWhile_cons, if_pos t]; exact dw_len l
        simp only [List.length_cons]
        omega
      · split
        · simp only [List.length_cons]; omega
        · split
          · simp only [List.length_cons]; omega
          · simp
theorem P_len (l : List Int) : (P l).length ≤ l.length := by
  unfold P
  rw [List.length_map]
  exact pcsN_len _ l
theorem str_iff {p : List Int} (h : Byt p) (a : ByteArray) : strOfNums p = a ↔ p = bytesOf a := by
  constructor
  · intro e
    rw [← e, bytes_str h]
  · intro e
    rw [e, str_bytes]
/-- The signs that are no tags. -/
def Sg (sg : List Int) : Prop := sg = [33] ∨ sg = [40] ∨ sg = [41] ∨ sg = [38, 38] ∨ sg = [124, 124]
theorem sg_not : Sg (bytesOf sNot) := .inl rfl
theorem sg_open : Sg (bytesOf sOpen) := .inr (.inl rfl)
theorem sg_shut : Sg (bytesOf sShut) := .inr (.inr (.inl rfl))
theorem sg_and : Sg (bytesOf sAnd) := .inr (.inr (.inr (.inl rfl)))
theorem sg_or : Sg (bytesOf sOr) := .inr (.inr (.inr (.inr rfl)))
theorem sg_ne {sg : List Int} (h : Sg sg) : sg ≠ [] := by rcases h with rfl | rfl | rfl | rfl | rfl <;> simp
theorem first_yes {sg : List Int} (hs : Sg sg) {c : Int} {r : List Int} (hb : isB c = false) (h : sg.isPrefixOf (c :: r) = true) : pcs (c :: r) = sg :: pcs ((c :: r).drop sg.length) := by
  rw [List.isPrefixOf_iff_prefix] at h
  obtain ⟨t, ht⟩ := h
  rw [pcs_cons, if_neg (by rw [hb]; simp)]
  rcases hs with rfl | rfl | rfl | rfl | rfl
  · simp only [List.cons_append, List.nil_append, List.cons.injEq] at ht
    obtain ⟨rfl, rfl⟩ := ht
    rfl
  · simp only [List.cons_append, List.nil_append, List.cons.injEq] at ht
    obtain ⟨rfl, rfl⟩ := ht
    rfl
  · simp only [List.cons_append, List.nil_append, List.cons.injEq] at ht
    obtain ⟨rfl, rfl⟩ := ht
    rfl
  · simp only [List.cons_append, List.nil_append, List.cons.injEq] at ht
    obtain ⟨rfl, rfl⟩ := ht
    rfl
  · simp only [List.cons_append, List.nil_append, List.cons.injEq] at ht
    obtain ⟨rfl, rfl⟩ := ht
    rfl
/-- The first piece of what doesn't begin with a blank. -/
theorem first_piece {c : Int} {r : List Int} (hb : isB c = false) : (isT c = true ∧ pcs (c :: r) = (c :: r).takeWhile isT :: pcs ((c :: r).dropWhile isT)) ∨ (isT c = false ∧ ∃ p t, pcs (c :: r) = p :: t ∧ (p = [] ∨ (p = [c] ∧ (c = 33 ∨ c = 40 ∨ c = 41) ∧ t = pcs r) ∨ (p = [c, c] ∧ (c = 38 ∨ c = 124) ∧ r.head? = some c))) := by
  rw [pcs_cons, if_neg (by rw [hb]; simp)]
  by_cases t : isT c = true
  · rw [if_pos t]
    exact .inl ⟨t, rfl⟩
  · rw [if_neg t]
    refine .inr ⟨Bool.eq_false_iff.2 t, ?_⟩
    by_cases h1 : c = 33 ∨ c = 40 ∨ c = 41
    · rw [if_pos h1]
      exact ⟨_, _, rfl, .inr (.inl ⟨rfl, h1, rfl⟩)⟩
    · rw [if_neg h1]
      by_cases h2 : (c = 38 ∨ c = 124) ∧ r.head? = some c
      · rw [if_pos h2]
        exact ⟨_, _, rfl, .inr (.inr ⟨rfl, h2.1, h2.2⟩)⟩
      · rw [if_neg h2]
        exact ⟨_, _, rfl, .inl rfl⟩
theorem first_no {sg : List Int} (hs : Sg sg) {c : Int} {r : List Int} (hb : isB c = false) (h : sg.isPrefixOf (c :: r) = false) : ∃ p t, pcs (c :: r) = p :: t ∧ p ≠ sg := by
  have hn : ¬ sg <+: (c :: r) := fun e => by
    rw [← List.isPrefixOf_iff_prefix] at e
    rw [e] at h
    cases h
  rcases first_piece (r := r) hb with ⟨t, e⟩ | ⟨_, p, t, e, h3⟩
  · refine ⟨_, _, e, fun e2 => ?_⟩
    rw [List.takeWhile_cons, if_pos t] at e2
    rcases hs with rfl | rfl | rfl | rfl | rfl <;> (injection e2 with e3 e4; subst e3; exact absurd t (by decide))
  · refine ⟨p, t, e, fun e2 => ?_⟩
    rcases h3 with h3 | ⟨h3, _⟩ | ⟨h3, _, h4⟩
    · exact sg_ne hs (e2.symm.trans h3)
    · exact hn (by rw [← e2, h3]; exact ⟨r, rfl⟩)
    · refine hn ?_
      rw [← e2, h3]
      cases r with
      | nil => cases h4
      | cons x y =>
        have : x = c := by simpa using h4
        subst this
        exact ⟨y, rfl⟩
/-- A sign that is taken of the text is taken of the pieces. -/
theorem tk_rtk {l : List Int} (hb : Byt l) {a : ByteArray} (hs : Sg (bytesOf a)) : rtk a (P l) = ((tk (bytesOf a) l).1, P (tk (bytesOf a) l).2) := by
  have hbd := byt_dropB hb
  rw [← P_dropB l]
  unfold tk
  rcases dropB_cases l with h | ⟨c, r, h, hc⟩
  · rw [h]
    have hn : (bytesOf a).isPrefixOf ([] : List Int) = false := by
      rcases hs with e | e | e | e | e <;> rw [e] <;> rfl
    rw [hn]
    rfl
  · rw [h] at hbd ⊢
    by_cases hp : (bytesOf a).isPrefixOf (c :: r) = true
    · rw [hp]
      unfold P
      rw [first_yes hs hc hp, List.map_cons, str_bytes]
      simp [rtk]
    · have hp2 := Bool.eq_false_iff.2 hp
      rw [hp2]
      obtain ⟨p, t, e, hne⟩ := first_no hs hc hp2
      unfold P
      rw [e, List.map_cons]
      have hpb := pcs_byt hbd p (by rw [e]; exact List.mem_cons_self)
      have : strOfNums p ≠ a := fun e2 => hne ((str_iff hpb a).1 e2)
      simp [rtk, this, e]
theorem tk_false {sg l : List Int} {l1 : List Int} (h : tk sg l = (false, l1)) : l1 = dropB l := by
  unfold tk at h
  split at h
  · cases h
  · exact (Prod.mk.inj h).2.symm
theorem tk_len {sg l l1 : List Int} {b : Bool} (h : tk sg l = (b, l1)) : l1.length ≤ l.length := by
  have := dropB_len l
  unfold tk at h
  split at h
  · rw [← (Prod.mk.inj h).2, List.length_drop]
    omega
  · rw [← (Prod.mk.inj h).2]
    exact this
theorem tk_less {sg l l1 : List Int} (hs : Sg sg) (h : tk sg l = (true, l1)) : l1.length < l.length := by
  have := dropB_len l
  unfold tk at h
  split at h
  · next hp =>
    rw [List.isPrefixOf_iff_prefix] at hp
    have h1 := hp.length_le
    have h2 := List.length_pos_iff.2 (sg_ne hs)
    rw [← (Prod.mk.inj h).2, List.length_drop]
    omega
  · cases h
theorem tk_byt {sg l l1 : List Int} {b : Bool} (hb : Byt l) (h : tk sg l = (b, l1)) : Byt l1 := by
  unfold tk at h
  split at h
  · rw [← (Prod.mk.inj h).2]
    exact byt_suffix (byt_dropB hb) (List.drop_suffix _ _)
  · rw [← (Prod.mk.inj h).2]
    exact byt_dropB hb
theorem rtk_len {a : ByteArray} {L L1 : List ByteArray} (h : rtk a L = (true, L1)) : L = a :: L1 := by
  cases L with
  | nil => cases h
  | cons x t =>
    simp only [rtk] at h
    split at h
    · next e =>
      rw [e, (Prod.mk.inj h).2]
    · cases h
theorem rtk_false {a : ByteArray} {L L1 : List ByteArray} (h : rtk a L = (false, L1)) : L1 = L := by
  cases L with
  | nil => exact (Prod.mk.inj h).2.symm
  | cons x t =>
    simp only [rtk] at h
    split at h
    · cases h
    · exact (Prod.mk.inj h).2.symm
/-- The one function tells of texts what the other tells of pieces. -/
def Good (F : St → Option (Int × St)) (R : Rt → Option (Int × Rt)) (d : Int) : Prop :=
  ∀ (l : List Int) (O : List ByteArray), Byt l → l.length ≤ 1024 → O.length + l.length ≤ 4096 →
    ∃ e l1 O1 d1 L2 O2 d2, F (l, O, d) = some (e, l1, O1, d1) ∧ R (P l, O, d) = some (e, L2, O2, d2) ∧ Byt l1 ∧ O1.length + l1.length ≤ O.length + l.length ∧ O2.length + L2.length ≤ O.length + (P l).length ∧ l1.length ≤ l.length ∧
      (e = 0 → L2 = P l1 ∧ O2 = O1 ∧ d1 = d ∧ d2 = d ∧ l1.length < l.length)
theorem noTag_piece {l : List Int} {c : Int} {r : List Int} (hl : Byt (c :: r)) (hb : isB c = false) (ht : isT c = false) : ∃ y t, P (c :: r) = y :: t ∧ rTag y = false ∧ y.size ≤ 140737488351232 := by
  rcases first_piece (r := r) hb with ⟨t, e⟩ | ⟨_, p, t, e, h3⟩
  · rw [ht] at t
    cases t
  · have hp := pcs_byt hl p (by rw [e]; exact List.mem_cons_self)
    refine ⟨strOfNums p, t.map strOfNums, by unfold P; rw [e]; rfl, ?_, ?_⟩
    · unfold rTag
      rw [bytes_str hp]
      rcases h3 with h3 | ⟨h3, h4, _⟩ | ⟨h3, h4, _⟩
      · rw [h3]; rfl
      · rw [h3]; simp [tagB, ht]
      · rw [h3]; simp [tagB, ht]
    · rw [← bytesOf_length, bytes_str hp]
      rcases h3 with h3 | ⟨h3, h4, _⟩ | ⟨h3, h4, _⟩ <;> rw [h3] <;> simp
theorem tag_piece {c : Int} {r : List Int} (hl : Byt (c :: r)) (hlen : (c :: r).length ≤ 1024) (hb : isB c = false) (ht : isT c = true) : P (c :: r) = strOfNums ((c :: r).takeWhile isT) :: P ((c :: r).dropWhile isT) ∧ rTag (strOfNums ((c :: r).takeWhile isT)) = true ∧ (strOfNums ((c :: r).takeWhile isT)).size ≤ 140737488351232 := by
  have hbt : Byt ((c :: r).takeWhile isT) := fun x hx => hl x ((List.takeWhile_prefix isT).subset hx)
  refine ⟨?_, ?_, ?_⟩
  · unfold P
    rw [pcs_cons, if_neg (by rw [hb]; simp), if_pos ht]
    rfl
  · unfold rTag
    rw [bytes_str hbt]
    unfold tagB
    rw [Bool.and_eq_true]
    refine ⟨List.all_takeWhile, ?_⟩
    rw [List.takeWhile_cons, if_pos ht]
    rfl
  · rw [← bytesOf_length, bytes_str hbt]
    have := (List.takeWhile_prefix isT (l := c :: r)).length_le
    omega
theorem good_part (G : St → Option (Int × St)) (RG : Rt → Option (Int × Rt)) (d : Int) (h0 : 0 ≤ d) (h1 : d ≤ 64) (hG : d + 1 ≤ 64 → Good G RG (d + 1)) : Good (partG G) (rpartG RG) d := by
  intro l O hb hl hO
  have hr := tk_rtk hb sg_open
  have hdc : 0 ≤ d ∧ d ≤ 4294967296 := ⟨h0, by omega⟩
  have hdc1 : 0 ≤ d + 1 ∧ d + 1 ≤ 4294967296 := ⟨by omega, by omega⟩
  obtain ⟨b, l1, ht⟩ : ∃ b l1, tk (bytesOf sOpen) l = (b, l1) := ⟨_, _, rfl⟩
  rw [ht] at hr
  have hb1 := tk_byt hb ht
  have hl1 := tk_len ht
  simp only at hr
  cases b with
  | true =>
    have hlt := tk_less sg_open ht
    have hP := rtk_len hr
    have hPl : (P l).length = (P l1).length + 1 := by rw [hP]; rfl
    by_cases c : 64 < d + 1
    · simp only [partG, rpartG, hr, ht, hdc, and_self, c, ↓reduceIte]
      exact ⟨8, l1, O, d + 1, P l1, O, d + 1, rfl, rfl, hb1, by omega, by omega, hl1, fun h => by omega⟩
    · obtain ⟨e, l2, O2, d2, L3, O3, d3, e1, e2, hb2, w1, w2, hl2, hz⟩ := hG (by omega) l1 O hb1 (by omega) (by omega)
      by_cases c2 : e = 0
      · obtain ⟨rfl, rfl, hd2, hd3, hl3⟩ := hz c2
        rw [hd2] at e1
        rw [hd3] at e2
        have hr2 := tk_rtk hb2 sg_shut
        obtain ⟨b, l4, ht2⟩ : ∃ b l4, tk (bytesOf sShut) l2 = (b, l4) := ⟨_, _, rfl⟩
        rw [ht2] at hr2
        have hb4 := tk_byt hb2 ht2
        have hl4 := tk_len ht2
        simp only at hr2
        subst c2
        cases b with
        | true =>
          have hP2 : (P l2).length = (P l4).length + 1 := by rw [rtk_len hr2]; rfl
          simp only [partG, rpartG, hr, ht, hdc, hdc1, and_self, c, ↓reduceIte, e1, e2, Option.bind_some, hr2, ht2]
          exact ⟨0, l4, O3, d + 1 - 1, P l4, O3, d + 1 - 1, rfl, rfl, hb4, by omega, by omega, by omega, fun _ => ⟨rfl, rfl, by omega, by omega, by omega⟩⟩
        | false =>
          have hP2 : P l4 = P l2 := rtk_false hr2
          have hP3 : (P l4).length = (P l2).length := by rw [hP2]
          simp only [partG, rpartG, hr, ht, hdc, hdc1, and_self, c, ↓reduceIte, e1, e2, Option.bind_some, hr2, ht2, Bool.false_eq_true]
          exact ⟨4, l4, O3, d + 1 - 1, P l4, O3, d + 1 - 1, rfl, rfl, hb4, by omega, by omega, by omega, fun h => by omega⟩
      · simp only [partG, rpartG, hr, ht, hdc, and_self, c, ↓reduceIte, e1, e2, Option.bind_some, c2]
        exact ⟨e, l2, O2, d2, L3, O3, d3, rfl, rfl, hb2, by omega, by omega, by omega, fun h => absurd h c2⟩
  | false =>
    have he := tk_false ht
    have hPe : P l = P l1 := by rw [he, P_dropB]
    have hd : dropB l1 = l1 := by rw [he, dropB_twice]
    have hcs := dropB_cases l1
    rw [hd] at hcs
    rw [hPe] at hr
    rcases hcs with hn | ⟨c, r, hn, hc⟩
    · subst hn
      have hk : List.takeWhile isT [] = [] := rfl
      have hr' : rtk sOpen ([] : List ByteArray) = (false, []) := rfl
      rw [hPe]
      simp only [P_nil, partG, rpartG, hr', ht, hd, hk, Bool.false_eq_true, ↓reduceIte]
      exact ⟨4, [], O, d, [], O, d, rfl, rfl, hb1, by simp, by simp, by simp, fun h => by omega⟩
    · subst hn
      by_cases t : isT c = true
      · obtain ⟨p1, p2, p3⟩ := tag_piece hb1 (by omega) hc t
        have hne : ¬ ((c :: r).takeWhile isT = []) := by rw [List.takeWhile_cons, if_pos t]; simp
        have hdl : ((c :: r).dropWhile isT).length ≤ r.length := by rw [List.dropWhile_cons, if_pos t]; exact dw_len r
        simp only [List.length_cons] at hl1
        have hOl : O.length < 4398046511104 := by omega
        rw [p1] at hr
        rw [hPe, p1]
        simp only [partG, rpartG, hr, ht, hd, hne, p2, p3, hOl, Bool.false_eq_true, ↓reduceIte]
        refine ⟨0, _, _, d, _, _, d, rfl, rfl, byt_suffix hb1 (List.dropWhile_suffix _), ?_, ?_, by omega, fun _ => ⟨rfl, rfl, rfl, rfl, by omega⟩⟩
        · simp only [List.length_append, List.length_singleton]
          omega
        · simp only [List.length_append, List.length_singleton, List.length_cons, List.length_nil]
          omega
      · have tf := Bool.eq_false_iff.2 t
        obtain ⟨y, t2, p1, p2, p3⟩ := noTag_piece (l := l) hb1 hc tf
        have hne : (c :: r).takeWhile isT = [] := by rw [List.takeWhile_cons, if_neg t]
        rw [p1] at hr
        rw [hPe, p1]
        simp only [partG, rpartG, hr, ht, hd, hne, p2, p3, Bool.false_eq_true, ↓reduceIte]
        exact ⟨4, c :: r, O, d, y :: t2, O, d, rfl, rfl, hb1, by omega, by omega, by omega, fun h => by omega⟩
theorem good_not (F : St → Option (Int × St)) (R : Rt → Option (Int × Rt)) (d : Int) (hF : Good F R d) (hN : ∀ L O, R (sNot :: L, O, d) = some (4, sNot :: L, O, d)) : Good (notF F) (rnotF R) d := by
  intro l O hb hl hO
  have hr := tk_rtk hb sg_not
  obtain ⟨b, l1, ht⟩ : ∃ b l1, tk (bytesOf sNot) l = (b, l1) := ⟨_, _, rfl⟩
  rw [ht] at hr
  have hb1 := tk_byt hb ht
  have hl1 := tk_len ht
  simp only at hr
  cases b with
  | false =>
    have hPe : P l = P l1 := by rw [tk_false ht, P_dropB]
    have hPl : (P l).length = (P l1).length := by rw [hPe]
    obtain ⟨e, l2, O2, d2, L3, O3, d3, e1, e2, hb2, w1, w2, hl2, hz⟩ := hF l1 O hb1 (by omega) (by omega)
    simp only [notF, rnotF, hr, ht, Bool.false_eq_true, ↓reduceIte, e1, e2, Option.bind_some, and_false]
    exact ⟨e, l2, O2, d2, L3, O3, d3, rfl, rfl, hb2, by omega, by omega, by omega, fun h => by obtain ⟨a1, a2, a3, a4, a5⟩ := hz h; exact ⟨a1, a2, a3, a4, by omega⟩⟩
  | true =>
    have hlt := tk_less sg_not ht
    have hP := rtk_len hr
    have hPl : (P l).length = (P l1).length + 1 := by rw [hP]; rfl
    have hr2 := tk_rtk hb1 sg_not
    obtain ⟨b, l2, ht2⟩ : ∃ b l2, tk (bytesOf sNot) l1 = (b, l2) := ⟨_, _, rfl⟩
    rw [ht2] at hr2
    have hb2 := tk_byt hb1 ht2
    have hl2 := tk_len ht2
    simp only at hr2
    cases b with
    | true =>
      have hP2 := rtk_len hr2
      have h4 := hN (P l2) O
      rw [← hP2] at h4
      have hz4 : ¬ ((4 : Int) = 0) := by omega
      simp only [notF, rnotF, hr, ht, ht2, ↓reduceIte, h4, Option.bind_some, hz4, false_and]
      exact ⟨4, l2, O, d, P l1, O, d, rfl, rfl, hb2, by omega, by omega, by omega, fun h => by omega⟩
    | false =>
      have hPe : P l1 = P l2 := by rw [tk_false ht2, P_dropB]
      obtain ⟨e, l3, O3, d3, L4, O4, d4, e1, e2, hb3, w1, w2, hl3, hz⟩ := hF l2 O hb2 (by omega) (by omega)
      rw [← hPe] at e2 w2
      have hpl := P_len l
      by_cases c : e = 0
      · obtain ⟨rfl, rfl, rfl, rfl, hl5⟩ := hz c
        subst c
        have hOl : O4.length < 4398046511104 := by omega
        simp only [notF, rnotF, hr, ht, ht2, Bool.false_eq_true, ↓reduceIte, e1, e2, Option.bind_some, and_self, hOl]
        refine ⟨0, l3, _, _, _, _, _, rfl, rfl, hb3, ?_, ?_, by omega, fun _ => ⟨rfl, rfl, rfl, rfl, by omega⟩⟩
        · simp only [List.length_append, List.length_singleton]
          omega
        · simp only [List.length_append, List.length_singleton]
          omega
      · simp only [notF, rnotF, hr, ht, ht2, Bool.false_eq_true, ↓reduceIte, e1, e2, Option.bind_some, c, false_and]
        exact ⟨e, l3, O3, d3, L4, O4, d4, rfl, rfl, hb3, by omega, by omega, by omega, fun h => absurd h c⟩
theorem good_loop (sg : ByteArray) (hs : Sg (bytesOf sg)) (F : St → Option (Int × St)) (R : Rt → Option (Int × Rt)) (d : Int) (hF : Good F R d) : ∀ (k : Nat) (l : List Int) (O : List ByteArray), l.length < k → Byt l → l.length ≤ 1024 → O.length + l.length ≤ 4096 →
    ∃ e l1 O1 d1 L2 O2 d2, listL sg F k (l, O, d) = some (e, l1, O1, d1) ∧ rlistL sg R k 0 (P l, O, d) = some (e, L2, O2, d2) ∧ Byt l1 ∧ O1.length + l1.length ≤ O.length + l.length ∧ O2.length + L2.length ≤ O.length + (P l).length ∧ l1.length ≤ l.length ∧
      (e = 0 → L2 = P l1 ∧ O2 = O1 ∧ d1 = d ∧ d2 = d)
  | 0, l, O, hk, _, _, _ => by omega
  | k + 1, l, O, hk, hb, hl, hO => by
    have hr := tk_rtk hb hs
    obtain ⟨b, l1, ht⟩ : ∃ b l1, tk (bytesOf sg) l = (b, l1) := ⟨_, _, rfl⟩
    rw [ht] at hr
    have hb1 := tk_byt hb ht
    have hl1 := tk_len ht
    simp only at hr
    cases b with
    | false =>
      have hPe : P l = P l1 := by rw [tk_false ht, P_dropB]
      have hPl : (P l).length = (P l1).length := by rw [hPe]
      simp only [listL, rlistL, hr, ht, Bool.false_eq_true, ↓reduceIte]
      exact ⟨0, l1, O, d, P l1, O, d, rfl, rfl, hb1, by omega, by omega, hl1, fun _ => ⟨rfl, rfl, rfl, rfl⟩⟩
    | true =>
      have hlt := tk_less hs ht
      have hP := rtk_len hr
      have hPl : (P l).length = (P l1).length + 1 := by rw [hP]; rfl
      have hpl := P_len l
      obtain ⟨e, l2, O2, d2, L3, O3, d3, e1, e2, hb2, w1, w2, hl2, hz⟩ := hF l1 O hb1 (by omega) (by omega)
      have hO3 : O3.length < 4398046511104 := by omega
      by_cases c : e = 0
      · obtain ⟨rfl, rfl, rfl, rfl, hl3⟩ := hz c
        subst c
        obtain ⟨e, l4, O4, d4, L5, O5, d5, f1, f2, hb4, v1, v2, hl4, hy⟩ := good_loop sg hs F R d3 hF k l2 (O3 ++ [sg]) (by omega) hb2 (by omega) (by simp only [List.length_append, List.length_singleton]; omega)
        simp only [List.length_append, List.length_singleton] at v1 v2
        simp only [listL, rlistL, hr, ht, ↓reduceIte, e1, e2, Option.bind_some, hO3]
        exact ⟨e, l4, O4, d4, L5, O5, d5, f1, f2, hb4, by omega, by omega, by omega, hy⟩
      · obtain ⟨k1, rfl⟩ : ∃ k1, k = k1 + 1 := ⟨k - 1, by omega⟩
        simp only [listL, rlistL, hr, ht, ↓reduceIte, e1, e2, Option.bind_some, hO3, c]
        refine ⟨e, l2, O2, d2, L3, O3 ++ [sg], d3, rfl, rfl, hb2, by omega, ?_, by omega, fun h => absurd h c⟩
        simp only [List.length_append, List.length_singleton]
        omega
theorem rlistL_stop (sg : ByteArray) (R : Rt → Option (Int × Rt)) (k : Nat) {e : Int} (h : ¬ e = 0) {L O : List ByteArray} {d : Int} : rlistL sg R (k + 1) e (L, O, d) = some (e, L, O, d) := by
  simp only [rlistL]
  rw [if_neg h]
theorem good_list (sg : ByteArray) (hs : Sg (bytesOf sg)) (F : St → Option (Int × St)) (R : Rt → Option (Int × Rt)) (d : Int) (hF : Good F R d) : Good (listF sg F 2000) (rlistF sg R 2000) d := by
  intro l O hb hl hO
  unfold listF rlistF
  obtain ⟨e, l2, O2, d2, L3, O3, d3, e1, e2, hb2, w1, w2, hl2, hz⟩ := hF l O hb hl hO
  rw [e1, e2]
  simp only [Option.bind_some]
  by_cases c : e = 0
  · obtain ⟨rfl, rfl, rfl, rfl, hl3⟩ := hz c
    subst c
    rw [if_pos rfl]
    obtain ⟨e, l4, O4, d4, L5, O5, d5, f1, f2, hb4, v1, v2, hl4, hy⟩ := good_loop sg hs F R d3 hF 2000 l2 O3 (by omega) hb2 (by omega) (by omega)
    exact ⟨e, l4, O4, d4, L5, O5, d5, f1, f2, hb4, by omega, by omega, by omega, fun h => by obtain ⟨a1, a2, a3, a4⟩ := hy h; exact ⟨a1, a2, a3, a4, by omega⟩⟩
  · rw [if_neg c]
    have : rlistL sg R 2000 e (L3, O3, d3) = some (e, L3, O3, d3) := rlistL_stop sg R 1999 c
    rw [this]
    exact ⟨e, l2, O2, d2, L3, O3, d3, rfl, rfl, hb2, w1, w2, hl2, hz⟩
theorem rpart_sNot (m n : Nat) (d : Int) (L O : List ByteArray) : rpartF m (n + 1) (sNot :: L, O, d) = some (4, sNot :: L, O, d) := by
  have h1 : rtk sOpen (sNot :: L) = (false, sNot :: L) := by
    simp only [rtk]
    rw [if_neg (by decide)]
  simp only [rpartF, rpartG]
  rw [h1]
  simp only
  rw [if_neg (by simp), if_pos (by decide), if_neg (by decide)]
theorem good_all : ∀ (n : Nat) (d : Int), 0 ≤ d → d ≤ 64 → 65 ≤ n + d → Good (partF 2000 n) (rpartF 2000 n) d
  | 0, d, h0, h1, h2 => by omega
  | n + 1, d, h0, h1, h2 => by
    refine good_part _ _ d h0 h1 fun h3 => good_list sOr sg_or _ _ _ (good_list sAnd sg_and _ _ _ (good_not _ _ _ (good_all n (d + 1) (by omega) h3 (by omega)) ?_))
    intro L O
    have : n = (n - 1) + 1 := by omega
    rw [this]
    exact rpart_sNot _ _ _ _ _
theorem good_or : Good (orF 2000 70) (rorF 2000 70) 0 :=
  good_list sOr sg_or _ _ _ (good_list sAnd sg_and _ _ _ (good_not _ _ _ (good_all 70 0 (by omega) (by omega) (by omega)) (fun L O => rpart_sNot _ _ _ _ _)))
theorem P_nil_iff (l : List Int) : P l = [] ↔ dropB l = [] := by
  rw [← P_dropB l]
  rcases dropB_cases l with h | ⟨c, r, h, hc⟩
  · rw [h]
    exact ⟨fun _ => rfl, fun _ => rfl⟩
  · rw [h]
    refine ⟨fun e => ?_, fun e => by cases e⟩
    rcases first_piece (r := r) hc with ⟨t, e2⟩ | ⟨_, p, t, e2, _⟩ <;> (unfold P at e; rw [e2] at e; cases e)
/-- The same of every text. -/
theorem parse_same (s : ByteArray) : ∃ r, expr_Parse.f s = some r ∧ seicheref13_Parse.f s = some r ∧ r.1.length ≤ 1024 := by
  unfold expr_Parse.f seicheref13_Parse.f
  by_cases c : 1024 < s.size
  · exact ⟨([], 3), by rw [if_pos c], by rw [if_pos c], Nat.zero_le _⟩
  · rw [if_neg c, if_neg c]
    obtain ⟨e, l1, O1, d1, L2, O2, d2, e1, e2, hb, w1, _, _, hz⟩ := good_or (bytesOf s) [] (byt_bytesOf s) (by rw [bytesOf_length]; omega) (by rw [bytesOf_length]; simp; omega)
    rw [bytesOf_length] at w1
    simp only [List.length_nil] at w1
    have e2' : rorF 2000 70 (pcsS s, [], 0) = some (e, L2, O2, d2) := e2
    rw [e1, e2']
    simp only [Option.bind_some]
    by_cases c2 : e = 0
    · obtain ⟨rfl, rfl, _⟩ := hz c2
      rw [if_pos c2, if_pos c2]
      by_cases c3 : dropB l1 = []
      · rw [if_pos c3, if_pos ((P_nil_iff l1).2 c3)]
        exact ⟨_, rfl, rfl, by simp only; omega⟩
      · rw [if_neg c3, if_neg (fun h => c3 ((P_nil_iff l1).1 h))]
        exact ⟨_, rfl, rfl, Nat.zero_le _⟩
    · rw [if_neg c2, if_neg c2]
      exact ⟨_, rfl, rfl, Nat.zero_le _⟩
end Go.Proofs.Ytcpemjolabofnaa.PAll
