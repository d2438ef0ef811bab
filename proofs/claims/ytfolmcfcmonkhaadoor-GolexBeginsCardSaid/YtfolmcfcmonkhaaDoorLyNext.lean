/- A token, or a comment, stays what it is when what stands behind it is changed, with little kept. -/
import Derived.Test.YtfolmcfcmonkhaaDoorLyLoc
namespace Go.Proofs.YtfolmcfcmonkhaaDoor.Fr
open Go Go.RowKit Go.Proofs.YtfolmcfcmonkhaaDoor.PAll Go.Proofs.YtfolmcfcmonkhaaDoorW.PrintWords Go.Proofs.YtfolmcfcmonkhaaDoorW.PrintLast Go.Proofs.YtfolmcfcmonkhaaDoorPw Go.Proofs.YtfolmcfcmonkhaaDoor
set_option linter.unusedVariables false
set_option linter.unusedSimpArgs false
def Brk (r : List Int) : Prop := r = [] ∨ ∃ b t, r = b :: t ∧ (b = 32 ∨ b = 9 ∨ b = 13 ∨ b = 10)
/-- What stands behind is a break, or begins with the same sign. -/
def Rel (x r r' : List Int) : Prop :=
  Brk r' ∨ ∃ b t t', r = b :: t ∧ r' = b :: t' ∧ (isL (sr r') || isD (sr r')) = (isL (sr r) || isD (sr r)) ∧ (x = [46] → ([46, 46] : List Int).isPrefixOf r' = ([46, 46] : List Int).isPrefixOf r)
theorem brk_sr {r : List Int} (h : Brk r) : (isL (sr r) || isD (sr r)) = false := by
  rcases h with rfl | ⟨b, t, rfl, h⟩
  · rw [sg_nil.1]; decide
  · rw [(sg_ascii (b := b) (by omega) t).1]
    rcases h with rfl | rfl | rfl | rfl <;> decide
theorem okN_x (hex : Bool) (p : Int) : okN hex p 120 = true ∧ okN hex p 88 = true := ⟨rfl, rfl⟩
theorem okN_brk (hex : Bool) (p : Int) {b : Int} (h : b = 32 ∨ b = 9 ∨ b = 13 ∨ b = 10) : okN hex p b = false := by
  rcases h with rfl | rfl | rfl | rfl <;> rfl
theorem two_loc {x r r' : List Int} (a y : Int) (hy : ¬ (y = 32 ∨ y = 9 ∨ y = 13 ∨ y = 10)) (hR : Rel x r r') (hx : 1 ≤ x.length) (h : ([a, y] : List Int).isPrefixOf (x ++ r) = false) : ([a, y] : List Int).isPrefixOf (x ++ r') = false := by
  match x, hx with
  | b :: c :: x, _ =>
    rw [← h]
    exact pre_loc (y := b :: c :: x) r r' (by simp)
  | [b], _ =>
    rcases hR with hR | ⟨e, t, t', rfl, rfl, _, _⟩
    · rcases hR with rfl | ⟨e, t, rfl, he⟩
      · simp [List.isPrefixOf]
      · have : ¬ y = e := by rintro rfl; exact hy he
        simp [List.isPrefixOf, this]
    · simp [List.isPrefixOf] at h ⊢
      exact h
theorem opL_max {l z : List Int} : ∀ {L : List (List Int)}, List.Pairwise (fun a b => b.length ≤ a.length) L → z ∈ L → z.isPrefixOf l = true → z.length ≤ opL L l
  | [], _, h, _ => by cases h
  | w :: L, hp, hz, hl => by
    rw [List.pairwise_cons] at hp
    rw [opL_cons]
    by_cases c : w.isPrefixOf l = true
    · rw [if_pos c]
      rcases List.mem_cons.1 hz with rfl | h
      · exact Nat.le_refl _
      · exact hp.1 _ h
    · rw [if_neg c]
      rcases List.mem_cons.1 hz with rfl | h
      · exact absurd hl c
      · exact opL_max hp.2 h hl
theorem opL_congr {l l' : List Int} : ∀ (L : List (List Int)), (∀ z ∈ L, z.isPrefixOf l' = z.isPrefixOf l) → opL L l' = opL L l
  | [], _ => rfl
  | w :: L, h => by
    rw [opL_cons, opL_cons, h w (by simp), opL_congr L (fun z hz => h z (by simp [hz]))]
theorem signs_sorted : List.Pairwise (fun a b => b.length ≤ a.length) signsI := by decide
theorem signs_three : ∀ z ∈ signsI, z.length ≤ 3 ∧ (z.length = 3 → z = [46, 46, 46] ∨ z.take 2 ∈ signsI) ∧ (32 ∉ z ∧ 9 ∉ z ∧ 13 ∉ z ∧ 10 ∉ z) := by decide
theorem pre_cut {z x t : List Int} {b : Int} (h : z.isPrefixOf (x ++ b :: t) = true) (hl : x.length < z.length) : ∃ u, z = x ++ b :: u ∧ u.isPrefixOf t = true := by
  rw [List.isPrefixOf_iff_prefix] at h
  obtain ⟨w, hw⟩ := h
  have e := congrArg (List.take z.length) hw
  rw [List.take_left, List.take_append, List.take_of_length_le (by omega)] at e
  obtain ⟨k, hk⟩ : ∃ k, z.length - x.length = k + 1 := ⟨z.length - x.length - 1, by omega⟩
  rw [hk, List.take_succ_cons] at e
  refine ⟨t.take k, e, ?_⟩
  rw [List.isPrefixOf_iff_prefix]
  exact List.take_prefix _ _
theorem op_loc {x r r' : List Int} (hx : 1 ≤ x.length) (h : op (x ++ r) = x.length) (hR : Rel x r r') : op (x ++ r') = x.length := by
  rw [← h, op_eq, op_eq]
  refine opL_congr _ (fun z hz => ?_)
  have mx : ∀ w, w ∈ signsI → w.isPrefixOf (x ++ r) = true → w.length ≤ x.length := fun w hw hp => by rw [← h]; exact opL_max signs_sorted hw hp
  obtain ⟨s1, s2, s3⟩ := signs_three z hz
  by_cases c : z.length ≤ x.length
  · exact pre_loc r r' c
  have e1 : z.isPrefixOf (x ++ r) = false := by
    rw [Bool.eq_false_iff]
    exact fun g => c (mx z hz g)
  rw [e1, Bool.eq_false_iff]
  intro g
  rcases hR with hR | ⟨b, t, t', rfl, rfl, _, h46⟩
  · rcases hR with rfl | ⟨b, t, rfl, hb⟩
    · rw [List.append_nil, pre_iff, decide_eq_true_eq] at g
      exact c g.1
    · obtain ⟨u, rfl, _⟩ := pre_cut g (by omega)
      simp only [List.mem_append, List.mem_cons, not_or] at s3
      rcases hb with rfl | rfl | rfl | rfl
      · exact s3.1.2.1 rfl
      · exact s3.2.1.2.1 rfl
      · exact s3.2.2.1.2.1 rfl
      · exact s3.2.2.2.2.1 rfl
  · obtain ⟨u, rfl, hu⟩ := pre_cut g (by omega)
    rw [List.length_append, List.length_cons] at s1 s2 c
    have two : ∀ w, w = x ++ [b] → w ∈ signsI → False := by
      rintro w rfl hw
      have := mx _ hw (by rw [List.isPrefixOf_iff_prefix]; exact ⟨t, by simp⟩)
      rw [List.length_append, List.length_singleton] at this
      omega
    match x, u, hx with
    | [a], [d], _ =>
      rcases s2 rfl with e | e
      · simp at e
        obtain ⟨rfl, rfl, rfl⟩ := e
        have h2 := h46 rfl
        have k1 : ([46, 46] : List Int).isPrefixOf (46 :: t') = true := by
          simp [List.isPrefixOf] at hu ⊢
          exact hu
        rw [k1] at h2
        have := mx [46, 46, 46] hz (by simp [List.isPrefixOf] at h2 ⊢; exact h2)
        simp at this
      · exact two _ rfl e
    | _, [], _ => exact two _ rfl hz
    | [_], _ :: _ :: _, _ => simp at s1; omega
    | _ :: _ :: _, _ :: _, _ => simp at s1; omega
def Dg (l : List Int) : Prop := 1 < l.length ∧ isD (l.getD 1 0) = true
theorem dg_loc {x r r' : List Int} (hR : Rel x r r') (hx : 1 ≤ x.length) (h : ¬ Dg (x ++ r)) : ¬ Dg (x ++ r') := by
  match x, hx with
  | b :: c :: x, _ => exact fun g => h ⟨by simp, g.2⟩
  | [b], _ =>
    rcases hR with hR | ⟨e, t, t', rfl, rfl, _, _⟩
    · rcases hR with rfl | ⟨e, t, rfl, he⟩
      · exact fun g => absurd g.1 (by simp)
      · rintro ⟨_, g⟩
        have g : isD e = true := g
        rcases he with rfl | rfl | rfl | rfl <;> exact absurd g (by decide)
    · exact fun g => h ⟨by simp, g.2⟩
theorem low_isL {r : Int} (h : isL r = false) : r < 128 := by
  unfold isL at h
  simp at h
  omega
theorem qt_loc {kd q : Int} {x r r' : List Int} {k : Int} {n : Nat} (hb : Byt (x ++ r)) (hx : 1 ≤ x.length) (h : qt kd q (x ++ r) = .tok k n) (hn : n = x.length) : qt kd q (x ++ r') = .tok k n := by
  obtain ⟨rfl, g1, g2, g3, g4⟩ := qt_inv hb h
  rw [List.drop_append_of_le_length hx] at g3
  have := byt_drop hb 1
  rw [List.drop_append_of_le_length hx] at this
  have ul := un_loc (if q = 96 then [] else [10]) (by split <;> simp) r r' _ (decide (q ≠ 96)) 1 (x.drop 1) n (Nat.le_refl _) this g3 (by simp) (by rw [List.length_drop]; omega)
  rw [qt, dp_eq (Nat.le_refl 1), List.drop_append_of_le_length hx, ul]
  dsimp only
  rw [if_neg g4]
/-- A token stays what it is. -/
theorem tok_loc {x r r' : List Int} {k : Int} {n : Nat} (hb : Byt (x ++ r)) (h : next (x ++ r) = .tok k n) (hn : n = x.length) (hR : Rel x r r') : next (x ++ r') = .tok k n := by
  have sz := tok_size hb h
  obtain ⟨h1, h2, h3, h4, h5, h6⟩ := tok_inv hb h
  have hx : 1 ≤ x.length := by omega
  have sl : sn (x ++ r) ≤ x.length := by
    cases c : isL (sr (x ++ r)) with
    | true =>
      rcases h6 with ⟨_, _, e⟩ | ⟨e, _⟩ | ⟨e, _⟩
      · rw [nm, dif_pos ⟨sr_ne h1, by rw [c]; rfl⟩] at e
        omega
      · rw [e] at c; cases c
      · rw [e] at c; cases c
    | false =>
      obtain ⟨t, _, g, _⟩ := sr_low hb h1 (low_isL c)
      omega
  obtain ⟨c, x', g1, g2, hx', g4, g5⟩ := sign_split hb h1 sl
  have s' : sr (x ++ r') = sr (x ++ r) := by rw [g4, hx', List.append_assoc]; exact (sg_at g1 g2 _).1
  rw [next, s', if_neg (by omega), if_neg h2, if_neg h3, two_loc 47 47 (by decide) hR hx h4, two_loc 47 42 (by decide) hR hx h5, if_neg Bool.false_ne_true, if_neg Bool.false_ne_true]
  rcases h6 with ⟨rfl, c1, e⟩ | ⟨c1, rfl, c2, e⟩ | ⟨c1, c2, c3⟩
  · rw [if_pos c1]
    have en := nm_end _ x r (Nat.le_refl _) hb (by omega)
    rw [nm_loc _ x r r' (Nat.le_refl _) hb (by omega) (by
      rcases hR with hR | ⟨b, t, t', _, _, g, _⟩
      · exact brk_sr hR
      · rw [g]; exact en), hn]
  · rw [if_neg (by rw [c1]; decide)]
    have en := nl_end (isHex (x ++ r)) r 0 x (by omega)
    have cc : ∀ b t, r' = b :: t → okN (isHex (x ++ r)) (lst 0 x) b = false := by
      rcases hR with hR | ⟨b, t, t', rfl, rfl, _, _⟩
      · rcases hR with rfl | ⟨b, t, rfl, hb'⟩
        · intro b t e; cases e
        · intro b' t' e'
          cases e'
          exact okN_brk _ _ hb'
      · intro b' t'' e'
        cases e'
        exact en _ _ rfl
    have hx2 : isHex (x ++ r') = isHex (x ++ r) := by
      match x, hx, en, cc with
      | a :: b :: x, _, _, _ =>
        unfold isHex
        rw [pre_loc (y := a :: b :: x) r r' (by simp), pre_loc (y := a :: b :: x) r r' (by simp)]
      | [a], _, en, cc =>
        have key : ∀ z : List Int, (∀ b t, z = b :: t → okN (isHex ([a] ++ r)) (lst 0 [a]) b = false) → isHex ([a] ++ z) = false := by
          intro z hz
          unfold isHex
          cases z with
          | nil => simp [List.isPrefixOf]
          | cons b t =>
            have := hz b t rfl
            have n1 : ¬ 120 = b := by rintro rfl; rw [(okN_x _ _).1] at this; cases this
            have n2 : ¬ 88 = b := by rintro rfl; rw [(okN_x _ _).2] at this; cases this
            simp [List.isPrefixOf, n1, n2]
        rw [key r' cc, key r en]
    have dg : isD (sr (x ++ r)) = true ∨ (sr (x ++ r) = 46 ∧ 1 < (x ++ r').length ∧ isD ((x ++ r').getD 1 0) = true) := by
      rcases c2 with c2 | ⟨c2, c3, c4⟩
      · exact .inl c2
      · right
        refine ⟨c2, ?_⟩
        match x, hx, h1, e, c2, c3, c4, hn with
        | a :: b :: x, _, _, _, _, _, c4, _ => exact ⟨by simp, c4⟩
        | [a], _, h1, e, c2, c3, c4, hn =>
          exfalso
          obtain ⟨t, q1, q2, q3⟩ := sr_low hb (by omega) (by omega)
          rw [c2] at q1
          cases r with
          | nil => simp at c3
          | cons b t =>
            have ea : a = 46 := List.head_eq_of_cons_eq q1
            have c4 : isD b = true := c4
            have ob : ∀ hex p, okN hex p b = true := by
              intro hex p
              rw [okN_pw]
              have lt : b < 128 := by unfold isD at c4; simp at c4; omega
              unfold ok2
              rw [c4, decide_eq_true lt]
              simp
            have := en b t rfl
            rw [ob] at this
            cases this
    rw [if_pos dg, hx2, nl_loc _ r r' 0 x (by omega) cc, hn]
  · have dg : ¬ (isD (sr (x ++ r)) = true ∨ (sr (x ++ r) = 46 ∧ 1 < (x ++ r').length ∧ isD ((x ++ r').getD 1 0) = true)) := by
      rintro (d | ⟨d1, d2⟩)
      · exact c2 (.inl d)
      · exact dg_loc hR hx (fun g => c2 (.inr ⟨d1, g⟩)) d2
    rw [if_neg (by rw [c1]; decide), if_neg dg]
    rcases c3 with ⟨e, q⟩ | ⟨e, q⟩ | ⟨e, q⟩ | ⟨e, rfl, q⟩ | ⟨d1, d2, d3, d4, rfl, q, q2⟩
    · rw [if_pos e, qt_loc hb hx q hn]
    · rw [if_neg (by omega), if_pos e, qt_loc hb hx q hn]
    · rw [if_neg (by omega), if_neg (by omega), if_pos e, qt_loc hb hx q hn]
    · rw [if_neg (by omega), if_neg (by omega), if_neg (by omega), if_pos e, q]
    · rw [if_neg d1, if_neg d2, if_neg d3, if_neg d4, op_loc hx (by omega) hR, if_neg (by omega), hn]
theorem next_byte {b : Int} (t : List Int) (h : b = 32 ∨ b = 9 ∨ b = 13) : next (b :: t) = .blank := by
  rw [next, (sg_ascii (b := b) (by omega) t).1, if_neg (by omega), if_neg (by omega), if_pos h]
/-- A comment stays what it is. -/
theorem note_loc {x r r' : List Int} {n : Nat} {f : Bool} (hb : Byt (x ++ r)) (h : next (x ++ r) = .note n f) (hn : n = x.length) (hR : r' = [] ∨ r'.headD 0 = 10 ∨ ∃ b t t', r = b :: t ∧ r' = b :: t') : next (x ++ r') = .note n f := by
  have sz := note_size hb h
  have p2 : ∀ a b : Int, ([a, b] : List Int).isPrefixOf (x ++ r') = ([a, b] : List Int).isPrefixOf (x ++ r) := fun a b => pre_loc r r' (by simp; omega)
  have s47 : ∀ z : List Int, x.headD 0 = 47 → sr (x ++ z) = 47 := by
    intro z hz
    cases x with
    | nil => simp at hz
    | cons a x =>
      simp at hz
      subst hz
      exact (sg_ascii (by decide) _).1
  have hd : x.headD 0 = 47 := by
    have := (note_feed hb h).1
    cases x with
    | nil => simp at hn; omega
    | cons a x => exact this
  rw [next, s47 r' hd, if_neg (by decide), if_neg (by decide), if_neg (by decide), p2, p2]
  rcases note_inv h with ⟨h1, h2⟩ | ⟨h0, h1, h2⟩
  · rw [if_pos h1]
    have g := (lc_le _ _ _ hb (Nat.le_refl _) _ _ h2).2.2.2.1
    rw [Nat.sub_zero, hn, List.drop_left] at g
    refine lc_loc _ 0 x r r' n f (Nat.le_refl _) hb h2 (by omega) ?_
    rcases hR with hR | hR | ⟨b, t, t', rfl, rfl⟩
    · exact .inl hR
    · exact .inr hR
    · rcases g with g | g
      · cases g
      · exact .inr g
  · rw [h0, if_neg Bool.false_ne_true, if_pos h1]
    obtain ⟨g1, g2, g3, g4⟩ := bc_inv hb (by omega) h2
    rw [List.drop_append_of_le_length (by omega)] at g4
    have hb2 := byt_drop hb 2
    rw [List.drop_append_of_le_length (by omega)] at hb2
    have ul := un_loc [] (by simp) r r' _ false 2 (x.drop 2) n (Nat.le_refl _) hb2 g4 (by simp) (by rw [List.length_drop]; omega)
    rw [bc, List.drop_append_of_le_length (by omega), ul, g3]
    dsimp only
    rw [hn, List.take_left, List.take_left]
end Go.Proofs.YtfolmcfcmonkhaaDoor.Fr
