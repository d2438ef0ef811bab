/- What the laws' own helpers compute, in plain words. -/
import Derived.Test.YtfolmcfcmonkhaaDoorPAllx3
import Derived.Test.YtfolmcfcmonkhaaDoorPAllxF
import Derived.Test.YtfolmcfcmonkhaaDoorPAllxL
namespace Go.Proofs.YtfolmcfcmonkhaaDoor.Fr
open Go Go.RowKit Go.Proofs.YtfolmcfcmonkhaaDoor.PAll Go.Proofs.YtfolmcfcmonkhaaDoorW.PrintWords Go.Proofs.YtfolmcfcmonkhaaDoorW.PrintLast Go.Proofs.YtfolmcfcmonkhaaDoorPw Go.Proofs.YtfolmcfcmonkhaaDoor
set_option linter.unusedVariables false
set_option linter.unusedSimpArgs false
theorem next_pos {l : List Int} {b : Int} (t : List Int) (e : l = b :: t) (hb : 0 < b ∧ b < 128) : sr l = b ∧ sn l = 1 := by
  subst e
  exact sg_ascii hb t
theorem n_1 : next [97, 32, 43, 32, 49, 10] = .tok 1 1 := by
  have e : nm [97, 32, 43, 32, 49, 10] = 1 := by
    rw [nm, dif_pos ⟨by decide, by rw [(sg_ascii (b := 97) (by decide) _).1]; decide⟩, (sg_ascii (b := 97) (by decide) _).2]
    show 1 + nm [32, 43, 32, 49, 10] = 1
    rw [nm, dif_neg]
    intro h
    rw [(sg_ascii (b := 32) (by decide) _).1] at h
    exact absurd h.2 (by decide)
  rw [next, (sg_ascii (b := 97) (by decide) _).1, if_neg (by decide), if_neg (by decide), if_neg (by decide), if_neg (by decide), if_neg (by decide), if_pos (by decide), e]
theorem n_2 (t : List Int) : next (32 :: t) = .blank := by
  rw [next, (sg_ascii (b := 32) (by decide) _).1, if_neg (by decide), if_neg (by decide), if_pos (by decide)]
theorem n_3 : next [43, 32, 49, 10] = .tok 5 1 := by
  rw [next, (sg_ascii (b := 43) (by decide) _).1, if_neg (by decide), if_neg (by decide), if_neg (by decide), if_neg (by decide), if_neg (by decide), if_neg (by decide), if_neg (by decide), if_neg (by decide), if_neg (by decide), if_neg (by decide), if_neg (by decide)]
  have e : op [43, 32, 49, 10] = 1 := by decide
  rw [e]
  rfl
theorem n_5 : next [49, 10] = .tok 2 1 := by
  rw [next, (sg_ascii (b := 49) (by decide) _).1, if_neg (by decide), if_neg (by decide), if_neg (by decide), if_neg (by decide), if_neg (by decide), if_neg (by decide), if_pos (by decide)]
  have e : nl (isHex [49, 10]) 0 [49, 10] = 1 := by decide
  rw [e]
theorem n_6 (t : List Int) : next (10 :: t) = .feed := by
  rw [next, (sg_ascii (b := 10) (by decide) _).1, if_neg (by decide), if_pos (by decide)]
theorem lx_bad {l : List Int} (h0 : l ≠ []) (a : Nat) (p : Bool) {o : Nat} (h : next l = .bad o) : lx l a p = ([⟨7, (⟨#[]⟩ : ByteArray), ((a + o : Nat) : Int)⟩], []) := by rw [lx, dif_neg h0, h]
theorem lx_blank {l : List Int} (h0 : l ≠ []) (a : Nat) (p : Bool) (h : next l = .blank) : lx l a p = lx (l.drop 1) (a + 1) p := by rw [lx, dif_neg h0, h]; rfl
theorem lx_feed {l : List Int} (h0 : l ≠ []) (a : Nat) (p : Bool) (h : next l = .feed) : lx l a p = (semi p a ++ (lx (l.drop 1) (a + 1) false).1, (lx (l.drop 1) (a + 1) false).2) := by rw [lx, dif_neg h0, h]; rfl
theorem lx_note {l : List Int} (h0 : l ≠ []) (a : Nat) (p : Bool) {n : Nat} {f : Bool} (hn : 1 ≤ n) (h : next l = .note n f) : lx l a p = (semi (p && f) a ++ (lx (l.drop n) (a + n) (p && !f)).1, ⟨0, strOfNums (l.take n), (a : Int)⟩ :: (lx (l.drop n) (a + n) (p && !f)).2) := by
  rw [lx, dif_neg h0, h]
  dsimp only
  rw [dp_eq hn]
theorem lx_tok {l : List Int} (h0 : l ≠ []) (a : Nat) (p : Bool) {k : Int} {n : Nat} (hn : 1 ≤ n) (h : next l = .tok k n) : lx l a p = (⟨k, strOfNums (l.take n), (a : Int)⟩ :: (lx (l.drop n) (a + n) (endsT ⟨k, strOfNums (l.take n), (a : Int)⟩)).1, (lx (l.drop n) (a + n) (endsT ⟨k, strOfNums (l.take n), (a : Int)⟩)).2) := by
  rw [lx, dif_neg h0, h]
  dsimp only
  rw [dp_eq hn]
theorem lx_nil (a : Nat) (p : Bool) : lx [] a p = (semi p a ++ [⟨0, (⟨#[]⟩ : ByteArray), (a : Int)⟩], []) := by rw [lx, dif_pos rfl]
theorem lx_a : (lx [97, 32, 43, 32, 49, 10] 0 false).1 = [⟨1, strOfNums [97], 0⟩, ⟨5, strOfNums [43], 2⟩, ⟨2, strOfNums [49], 4⟩, ⟨6, ⟨#[]⟩, 5⟩, ⟨0, ⟨#[]⟩, 6⟩] := by
  rw [lx_tok (by decide) _ _ (by decide) n_1]
  show _ :: (lx [32, 43, 32, 49, 10] 1 _).1 = _
  rw [lx_blank (by decide) _ _ (n_2 _)]
  show _ :: (lx [43, 32, 49, 10] 2 _).1 = _
  rw [lx_tok (by decide) _ _ (by decide) n_3]
  show _ :: _ :: (lx [32, 49, 10] 3 _).1 = _
  rw [lx_blank (by decide) _ _ (n_2 _)]
  show _ :: _ :: (lx [49, 10] 4 _).1 = _
  rw [lx_tok (by decide) _ _ (by decide) n_5]
  show _ :: _ :: _ :: (lx [10] 5 true).1 = _
  rw [lx_feed (by decide) _ _ (n_6 _)]
  show _ :: _ :: _ :: (semi true 5 ++ (lx [] 6 false).1) = _
  rw [lx_nil]
  rfl
theorem alive_true : seichelaw11_alive.f = some true := by
  unfold seichelaw11_alive.f golex_Lex.f
  rw [if_pos (by decide)]
  have e : (lexB (⟨#[97, 32, 43, 32, 49, 10]⟩ : ByteArray)).1 = [⟨1, strOfNums [97], 0⟩, ⟨5, strOfNums [43], 2⟩, ⟨2, strOfNums [49], 4⟩, ⟨6, ⟨#[]⟩, 5⟩, ⟨0, ⟨#[]⟩, 6⟩] := by
    rw [← lx_a]
    unfold lexB
    rw [show skp (bytesOf (⟨#[97, 32, 43, 32, 49, 10]⟩ : ByteArray)) = 0 by decide]
    rfl
  rw [e]
  simp only [ba_toList]
  rfl
theorem open_l0 (a : ByteArray) : ∀ (suf pre L : List ByteArray) (b : Bool), (b = true ↔ a ∈ suf) → L = pre ++ suf → L.length < 1000 → Ev (fun k => seicheref11_Open.l0 k a L (L.length : Int) (pre.length : Int)) b
  | [], pre, L, b, hb, e, hl => by
    rw [List.append_nil] at e
    subst e
    refine Ev.step (fun _ => seicheref11_Open.l0.eq_2 ..) (ev_neg (by omega) (ev_ret ?_))
    rw [eq_comm, Bool.eq_false_iff]
    exact fun h => absurd (hb.1 h) (by simp)
  | x :: suf, pre, L, b, hb, e, hl => by
    have ln := congrArg List.length e
    rw [List.length_append, List.length_cons] at ln
    have rx : rdOf ByteArray.empty L (pre.length : Int) = x := by
      unfold rdOf
      rw [Int.toNat_natCast, e, List.getD_eq_getElem?_getD, List.getElem?_append_right (Nat.le_refl _), Nat.sub_self]
      rfl
    have w : wrap64 ((pre.length : Int) + 1) = (((pre ++ [x]).length : Nat) : Int) := by rw [w64 (by omega) (by omega)]; simp
    refine Ev.step (fun _ => seicheref11_Open.l0.eq_2 ..) (ev_pos (by omega) (ev_pos (by omega) (ev_pos (by omega) ?_)))
    rw [rx]
    by_cases c : x.toList = a.toList
    · refine ev_pos c (ev_ret ?_)
      rw [eq_comm]
      exact hb.2 (by rw [ba_inj c]; simp)
    · refine ev_neg c ?_
      rw [w]
      refine open_l0 a suf (pre ++ [x]) L b ?_ (by rw [e, List.append_assoc]; rfl) hl
      rw [hb, List.mem_cons]
      exact ⟨fun h => h.elim (fun h => absurd (by rw [h]) c) id, .inr⟩
theorem open_ev (a : ByteArray) : Ev (fun k => seicheref11_Open.f k a) (Lib.containsS wordsL a) := open_l0 a wordsL [] wordsL _ (Lib.containsS_iff _ _) rfl (by decide)
theorem feeds_ev (t : S27) : Ev (fun k => seicheref11_Feeds.f k t.f0 t.f1 t.f2) (endsT t) := by
  have yes : ∀ b : Bool, b = true → Ev (fun k => seicheref11_Feeds.j0 k t.f0 b t.f0 t.f1 t.f2) true := by
    rintro b rfl
    exact Ev.step (fun _ => seicheref11_Feeds.j0.eq_2 ..) (ev_pos rfl (ev_ret rfl))
  unfold seicheref11_Feeds.f
  by_cases c2 : t.f0 = 2
  · have e : endsT t = true := by unfold endsT; rw [if_neg (by omega), if_pos c2]
    rw [e]
    exact ev_pos c2 (yes _ (by rw [c2]; rfl))
  refine ev_neg c2 ?_
  by_cases c3 : t.f0 = 3
  · have e : endsT t = true := by unfold endsT; rw [if_neg (by omega), if_neg c2, if_pos c3]
    rw [e]
    exact ev_pos c3 (yes _ (by rw [c3]; rfl))
  refine ev_neg c3 ?_
  by_cases c4 : t.f0 = 4
  · have e : endsT t = true := by unfold endsT; rw [if_neg (by omega), if_neg c2, if_neg c3, if_pos c4]
    rw [e]
    exact yes _ (by rw [c4]; rfl)
  refine Ev.step (fun _ => seicheref11_Feeds.j0.eq_2 ..) (ev_neg (by simpa using c4) ?_)
  by_cases c1 : t.f0 = 1
  · have e : endsT t = !(Lib.containsS wordsL t.f1) := by unfold endsT; rw [if_pos c1]
    rw [e]
    exact ev_pos c1 (ev_call (open_ev t.f1) (ev_ret rfl))
  refine ev_neg c1 ?_
  by_cases c5 : t.f0 = 5
  · refine ev_pos c5 ?_
    have e : endsT t = Lib.containsS endsL t.f1 := by unfold endsT; rw [if_neg c1, if_neg c2, if_neg c3, if_neg c4, if_pos c5]
    rw [e]
    have key : ∀ x : ByteArray, (t.f1.toList = x.toList) = (t.f1 = x) := fun x => by rw [eq_iff_iff]; exact ba_iff
    have mm : Lib.containsS endsL t.f1 = true ↔ (t.f1 = ⟨#[43, 43]⟩ ∨ t.f1 = ⟨#[45, 45]⟩ ∨ t.f1 = ⟨#[41]⟩ ∨ t.f1 = ⟨#[93]⟩ ∨ t.f1 = ⟨#[125]⟩) := by
      rw [Lib.containsS_iff]
      unfold endsL
      simp only [List.mem_cons, List.not_mem_nil, or_false]
    have k1 : (t.f1.toList = ([43, 43] : List UInt8)) = (t.f1 = ⟨#[43, 43]⟩) := by rw [← key]; simp only [ba_toList]
    have k2 : (t.f1.toList = ([45, 45] : List UInt8)) = (t.f1 = ⟨#[45, 45]⟩) := by rw [← key]; simp only [ba_toList]
    have k3 : (t.f1.toList = ([41] : List UInt8)) = (t.f1 = ⟨#[41]⟩) := by rw [← key]; simp only [ba_toList]
    have k4 : (t.f1.toList = ([93] : List UInt8)) = (t.f1 = ⟨#[93]⟩) := by rw [← key]; simp only [ba_toList]
    have k5 : (t.f1.toList = ([125] : List UInt8)) = (t.f1 = ⟨#[125]⟩) := by rw [← key]; simp only [ba_toList]
    by_cases d1 : t.f1 = ⟨#[43, 43]⟩
    · exact ev_pos (k1.mpr d1) (ev_ret (mm.2 (.inl d1)).symm)
    refine ev_neg (fun h => d1 (k1.mp h)) ?_
    by_cases d2 : t.f1 = ⟨#[45, 45]⟩
    · exact ev_pos (k2.mpr d2) (ev_ret (mm.2 (.inr (.inl d2))).symm)
    refine ev_neg (fun h => d2 (k2.mp h)) ?_
    by_cases d3 : t.f1 = ⟨#[41]⟩
    · exact ev_pos (k3.mpr d3) (ev_ret (mm.2 (.inr (.inr (.inl d3)))).symm)
    refine ev_neg (fun h => d3 (k3.mp h)) ?_
    by_cases d4 : t.f1 = ⟨#[93]⟩
    · exact ev_pos (k4.mpr d4) (ev_ret (mm.2 (.inr (.inr (.inr (.inl d4))))).symm)
    refine ev_neg (fun h => d4 (k4.mp h)) (ev_ret ?_)
    rw [Bool.eq_iff_iff, beq_iff_eq, k5, mm]
    exact ⟨fun h => .inr (.inr (.inr (.inr h))), fun h => h.elim (fun h => absurd h d1) (fun h => h.elim (fun h => absurd h d2) (fun h => h.elim (fun h => absurd h d3) (fun h => h.elim (fun h => absurd h d4) id)))⟩
  · have e : endsT t = false := by unfold endsT; rw [if_neg c1, if_neg c2, if_neg c3, if_neg c4, if_neg c5]
    rw [e]
    exact ev_neg c5 (ev_ret rfl)
theorem rd_cons (a : List S27) (i : Nat) (h : i < a.length) : a.drop i = rd_T27 a (i : Int) :: a.drop (i + 1) := by
  rw [List.drop_eq_getElem_cons h]
  congr 1
  unfold rd_T27
  rw [Int.toNat_natCast, List.getD_eq_getElem?_getD, List.getElem?_eq_getElem h]
  rfl
theorem same_l0 : ∀ (n : Nat) (a b : List S27), a.length = b.length → ∀ (i : Nat) (v : Bool), (v = true ↔ a.drop i = b.drop i) → a.length - i ≤ n → i ≤ a.length → a.length ≤ 9000000 →
    Ev (fun k => seicheref11_Same.l0 k a b (a.length : Int) (i : Int)) v
  | n, a, b, hl, i, v, hv, hn, hi, hm => by
    refine Ev.step (fun _ => seicheref11_Same.l0.eq_2 ..) ?_
    by_cases h0 : a.length ≤ i
    · refine ev_neg (by omega) (ev_ret ?_)
      rw [List.drop_eq_nil_of_le h0, List.drop_eq_nil_of_le (by omega)] at hv
      exact (hv.2 rfl).symm
    have hn' : n ≠ 0 := by omega
    obtain ⟨m, rfl⟩ := Nat.exists_eq_succ_of_ne_zero hn'
    have w : wrap64 ((i : Int) + 1) = ((i + 1 : Nat) : Int) := by rw [w64 (by omega) (by omega)]; omega
    have ih := fun hh => same_l0 m a b hl (i + 1) v hh (by omega) (by omega) hm
    have ra := rd_cons a i (by omega)
    have rb := rd_cons b i (by omega)
    refine ev_pos (by omega) (ev_pos (by omega) (ev_pos (by omega) (ev_pos (by omega) ?_)))
    rw [ra, rb] at hv
    rw [w]
    generalize rd_T27 a (i : Int) = x at hv ⊢
    generalize rd_T27 b (i : Int) = y at hv ⊢
    rw [ba_beq]
    by_cases c : x = y
    · subst c
      refine ev_neg (by simp) (ih ?_)
      rw [hv]
      simp
    · refine ev_pos ?_ (ev_ret ?_)
      · cases x with | mk x0 x1 x2 => ?_
        cases y with | mk y0 y1 y2 => ?_
        simp only [S27.mk.injEq] at c
        simp only [Bool.or_eq_true, Bool.not_eq_true', beq_eq_false_iff_ne, decide_eq_false_iff_not]
        by_cases h1 : x0 = y0
        · by_cases h2 : x1 = y1
          · exact .inr (.inr (fun h3 => c ⟨h1, h2, h3⟩))
          · exact .inr (.inl h2)
        · exact .inl h1
      · rw [eq_comm, Bool.eq_false_iff]
        intro h
        exact c (List.head_eq_of_cons_eq (hv.1 h))
theorem same_ev (a b : List S27) (v : Bool) (hv : v = true ↔ a = b) (hm : a.length ≤ 9000000) : Ev (fun k => seicheref11_Same.f k a b) v := by
  unfold seicheref11_Same.f
  by_cases c : a.length = b.length
  · exact ev_pos (by omega) (same_l0 _ a b c 0 v hv (Nat.le_refl _) (Nat.zero_le _) hm)
  · refine ev_neg (by omega) (ev_ret ?_)
    rw [eq_comm, Bool.eq_false_iff]
    exact fun h => c (by rw [hv.1 h])
end Go.Proofs.YtfolmcfcmonkhaaDoor.Fr
