/- What the laws' own helpers compute, in plain words. -/
import Derived.Test.YtfolmcfcmonkhaaDoorPAllxL
import Derived.Test.YtfolmcfcmonkhaaDoorPAllxF
import Derived.Test.YtfolmcfcmonkhaaDoorPAllx3
import Derived.Test.YtfolmcfcmonkhaaDoorPAllx9
import Derived.Test.YtfolmcfcmonkhaaDoorPAllx10
import Derived.Test.YtfolmcfcmonkhaaDoorPAllx11
import Derived.Test.YtfolmcfcmonkhaaDoorPAllx13
namespace Go.Proofs.YtfolmcfcmonkhaaDoor.Fr
open Go Go.RowKit Go.Proofs.YtfolmcfcmonkhaaDoor.PAll Go.Proofs.YtfolmcfcmonkhaaDoorW.PrintWords Go.Proofs.YtfolmcfcmonkhaaDoorW.PrintLast Go.Proofs.YtfolmcfcmonkhaaDoorPw Go.Proofs.YtfolmcfcmonkhaaDoor
set_option linter.unusedVariables false
set_option linter.unusedSimpArgs false
theorem n_1 : next [97, 32, 43, 32, 49, 10] = .tok 1 1 := by
  have e : nm [97, 32, 43, 32, 49, 10] = 1 := by
    rw [nm, dif_pos ⟨by decide, by rw [(sg_ascii (b := 97) (by decide) _).1]; decide⟩, (sg_ascii (b := 97) (by decide) _).2]
    show 1 + nm [32, 43, 32, 49, 10] = 1
    rw [nm, dif_neg]
    intro h
    rw [(sg_ascii (b := 32) (by decide) _).1] at h
    exact absurd h.2 (by decide)
  rw [next, (sg_ascii (b := 97) (by decide) _).1, if_neg (by decide), if_neg (by decide), if_neg (by decide), if_neg (by decide), if_neg (by decide), if_pos (by decide), e]
theorem n_2 (t : List Int) : next (32 :: t) = .blank := by
  rw [next, (sg_ascii (b := 32) (by decide) _).1, if_neg (by decide), if_neg (by decide), if_pos (by decide)]
theorem n_3 : next [43, 32, 49, 10] = .tok 5 1 := by
  rw [next, (sg_ascii (b := 43) (by decide) _).1, if_neg (by decide), if_neg (by decide), if_neg (by decide), if_neg (by decide), if_neg (by decide), if_neg (by decide), if_neg (by decide), if_neg (by decide), if_neg (by decide), if_neg (by decide), if_neg (by decide)]
  have e : op [43, 32, 49, 10] = 1 := by decide
  rw [e]
  rfl
theorem n_5 : next [49, 10] = .tok 2 1 := by
  rw [next, (sg_ascii (b := 49) (by decide) _).1, if_neg (by decide), if_neg (by decide), if_neg (by decide), if_neg (by decide), if_neg (by decide), if_neg (by decide), if_pos (by decide)]
  have e : nl (isHex [49, 10]) 0 [49, 10] = 1 := by decide
  rw [e]
theorem n_6 (t : List Int) : next (10 :: t) = .feed := by
  rw [next, (sg_ascii (b := 10) (by decide) _).1, if_neg (by decide), if_pos (by decide)]
theorem lx_bad {l : List Int} (h0 : l ≠ []) (a : Nat) (p : Bool) {o : Nat} (h : next l = .bad o) : lx l a p = ([⟨7, (⟨#[]⟩ : ByteArray), ((a + o : Nat) : Int)⟩], []) := by rw [lx, dif_neg h0, h]
theorem lx_blank {l : List Int} (h0 : l ≠ []) (a : Nat) (p : Bool) (h : next l = .blank) : lx l a p = lx (l.drop 1) (a + 1) p := by rw [lx, dif_neg h0, h]; rfl
theorem lx_feed {l : List Int} (h0 : l ≠ []) (a : Nat) (p : Bool) (h : next l = .feed) : lx l a p = (semi p a ++ (lx (l.drop 1) (a + 1) false).1, (lx (l.drop 1) (a + 1) false).2) := by rw [lx, dif_neg h0, h]; rfl
theorem lx_note {l : List Int} (h0 : l ≠ []) (a : Nat) (p : Bool) {n : Nat} {f : Bool} (hn : 1 ≤ n) (h : next l = .note n f) : lx l a p = (semi (p && f) a ++ (lx (l.drop n) (a + n) (p && !f)).1, ⟨0, strOfNums (l.take n), (a : Int)⟩ :: (lx (l.drop n) (a + n) (p && !f)).2) := by
  rw [lx, dif_neg h0, h]
  dsimp only
  rw [dp_eq hn]
theorem lx_tok {l : List Int} (h0 : l ≠ []) (a : Nat) (p : Bool) {k : Int} {n : Nat} (hn : 1 ≤ n) (h : next l = .tok k n) : lx l a p = (⟨k, strOfNums (l.take n), (a : Int)⟩ :: (lx (l.drop n) (a + n) (endsT ⟨k, strOfNums (l.take n), (a : Int)⟩)).1, (lx (l.drop n) (a + n) (endsT ⟨k, strOfNums (l.take n), (a : Int)⟩)).2) := by
  rw [lx, dif_neg h0, h]
  dsimp only
  rw [dp_eq hn]
theorem lx_nil (a : Nat) (p : Bool) : lx [] a p = (semi p a ++ [⟨0, (⟨#[]⟩ : ByteArray), (a : Int)⟩], []) := by rw [lx, dif_pos rfl]
theorem lx_a : (lx [97, 32, 43, 32, 49, 10] 0 false).1 = [⟨1, strOfNums [97], 0⟩, ⟨5, strOfNums [43], 2⟩, ⟨2, strOfNums [49], 4⟩, ⟨6, ⟨#[]⟩, 5⟩, ⟨0, ⟨#[]⟩, 6⟩] := by
  rw [lx_tok (by decide) _ _ (by decide) n_1]
  show _ :: (lx [32, 43, 32, 49, 10] 1 _).1 = _
  rw [lx_blank (by decide) _ _ (n_2 _)]
  show _ :: (lx [43, 32, 49, 10] 2 _).1 = _
  rw [lx_tok (by decide) _ _ (by decide) n_3]
  show _ :: _ :: (lx [32, 49, 10] 3 _).1 = _
  rw [lx_blank (by decide) _ _ (n_2 _)]
  show _ :: _ :: (lx [49, 10] 4 _).1 = _
  rw [lx_tok (by decide) _ _ (by decide) n_5]
  show _ :: _ :: _ :: (lx [10] 5 true).1 = _
  rw [lx_feed (by decide) _ _ (n_6 _)]
  show _ :: _ :: _ :: (semi true 5 ++ (lx [] 6 false).1) = _
  rw [lx_nil]
  rfl
theorem alive_true : seichelaw11_alive.f = some true := by
  unfold seichelaw11_alive.f golex_Lex.f
  rw [if_pos (by decide)]
  have e : (lexB (⟨#[97, 32, 43, 32, 49, 10]⟩ : ByteArray)).1 = [⟨1, strOfNums [97], 0⟩, ⟨5, strOfNums [43], 2⟩, ⟨2, strOfNums [49], 4⟩, ⟨6, ⟨#[]⟩, 5⟩, ⟨0, ⟨#[]⟩, 6⟩] := by
    rw [← lx_a]
    unfold lexB
    rw [show skp (bytesOf (⟨#[97, 32, 43, 32, 49, 10]⟩ : ByteArray)) = 0 by decide]
    rfl
  rw [e]
  simp only [ba_toList]
  rfl
theorem rd_cons (a : List S27) (i : Nat) (h : i < a.length) : a.drop i = rd_T27 a (i : Int) :: a.drop (i + 1) := by
  rw [List.drop_eq_getElem_cons h]
  congr 1
  unfold rd_T27
  rw [Int.toNat_natCast, List.getD_eq_getElem?_getD, List.getElem?_eq_getElem h]
  rfl
end Go.Proofs.YtfolmcfcmonkhaaDoor.Fr
namespace Go.Proofs.YtfolmcfcmonkhaaDoor.Fr
open Go Go.RowKit Go.Proofs.YtfolmcfcmonkhaaDoor.PAll Go.Proofs.YtfolmcfcmonkhaaDoorW.PrintWords Go.Proofs.YtfolmcfcmonkhaaDoorW.PrintLast Go.Proofs.YtfolmcfcmonkhaaDoorPw Go.Proofs.YtfolmcfcmonkhaaDoor
set_option linter.unusedVariables false
set_option linter.unusedSimpArgs false
theorem head_bt {s : ByteArray} {a : Nat} {r : Int} (ha : a < s.size) (h : sr ((bytesOf s).drop a) = r) (hr : 0 < r ∧ r < 128) : bt s (a : Int) = r := by
  obtain ⟨t, g1, g2, g3⟩ := sr_low (byt_drop (byt_bytesOf s) a) (by omega) (by omega)
  rw [drop_bt ha] at g1
  rw [List.head_eq_of_cons_eq g1, ← drop_bt ha]
  exact h
theorem lx_len : ∀ (n : Nat) (l : List Int) (a : Nat) (p : Bool), Byt l → l.length ≤ n → (lx l a p).1.length ≤ 2 * l.length + 2 ∧ (lx l a p).2.length ≤ l.length
  | n, l, a, p, hb, hn => by
    have sl := fun (b : Bool) => semi_len b a
    by_cases h0 : l = []
    · subst h0
      have := sl p
      rw [lx_nil, List.length_append, List.length_singleton]
      simp
      omega
    have lp := List.length_pos_iff.2 h0
    have hn' : n ≠ 0 := by omega
    obtain ⟨m, rfl⟩ := Nat.exists_eq_succ_of_ne_zero hn'
    cases e : next l with
    | bad o => rw [lx_bad h0 _ _ e]; simp
    | blank =>
      rw [lx_blank h0 _ _ e]
      have := lx_len m (l.drop 1) (a + 1) p (byt_drop hb 1) (by rw [List.length_drop]; omega)
      rw [List.length_drop] at this
      omega
    | feed =>
      rw [lx_feed h0 _ _ e, List.length_append]
      have := lx_len m (l.drop 1) (a + 1) false (byt_drop hb 1) (by rw [List.length_drop]; omega)
      rw [List.length_drop] at this
      have := sl p
      dsimp only
      omega
    | note k f =>
      have sz := note_size hb e
      rw [lx_note h0 _ _ (by omega) e, List.length_append, List.length_cons]
      have := lx_len m (l.drop k) (a + k) (p && !f) (byt_drop hb k) (by rw [List.length_drop]; omega)
      rw [List.length_drop] at this
      have := sl (p && f)
      omega
    | tok kd k =>
      have sz := tok_size hb e
      rw [lx_tok h0 _ _ (by omega) e, List.length_cons]
      have := lx_len m (l.drop k) (a + k) (endsT ⟨kd, strOfNums (l.take k), (a : Int)⟩) (byt_drop hb k) (by rw [List.length_drop]; omega)
      rw [List.length_drop] at this
      dsimp only
      omega
theorem lex_len (s : ByteArray) (hs : s.size ≤ 1048576) : (lexB s).1.length ≤ 9000000 := by
  have hk := skp_le (bytesOf s)
  have hl := bytesOf_length s
  have := lx_len _ _ (skp (bytesOf s)) false (byt_drop (byt_bytesOf s) (skp (bytesOf s))) (Nat.le_refl _)
  rw [List.length_drop] at this
  unfold lexB
  omega
end Go.Proofs.YtfolmcfcmonkhaaDoor.Fr
namespace Go.Proofs.YtfolmcfcmonkhaaDoor.Fr
open Go Go.RowKit Go.Proofs.YtfolmcfcmonkhaaDoor.PAll Go.Proofs.YtfolmcfcmonkhaaDoorW.PrintWords Go.Proofs.YtfolmcfcmonkhaaDoorW.PrintLast Go.Proofs.YtfolmcfcmonkhaaDoorPw Go.Proofs.YtfolmcfcmonkhaaDoor
set_option linter.unusedVariables false
set_option linter.unusedSimpArgs false
end Go.Proofs.YtfolmcfcmonkhaaDoor.Fr
namespace Go.Proofs.YtfolmcfcmonkhaaDoor.Fr
open Go Go.RowKit Go.Proofs.YtfolmcfcmonkhaaDoor.PAll Go.Proofs.YtfolmcfcmonkhaaDoorW.PrintWords Go.Proofs.YtfolmcfcmonkhaaDoorW.PrintLast Go.Proofs.YtfolmcfcmonkhaaDoorPw Go.Proofs.YtfolmcfcmonkhaaDoor
set_option linter.unusedVariables false
set_option linter.unusedSimpArgs false
theorem opL_max {l z : List Int} : ∀ {L : List (List Int)}, List.Pairwise (fun a b => b.length ≤ a.length) L → z ∈ L → z.isPrefixOf l = true → z.length ≤ opL L l
  | [], _, h, _ => by cases h
  | w :: L, hp, hz, hl => by
    rw [List.pairwise_cons] at hp
    rw [opL_cons]
    by_cases c : w.isPrefixOf l = true
    · rw [if_pos c]
      rcases List.mem_cons.1 hz with rfl | h
      · exact Nat.le_refl _
      · exact hp.1 _ h
    · rw [if_neg c]
      rcases List.mem_cons.1 hz with rfl | h
      · exact absurd hl c
      · exact opL_max hp.2 h hl
theorem signs_sorted : List.Pairwise (fun a b => b.length ≤ a.length) signsI := by decide
end Go.Proofs.YtfolmcfcmonkhaaDoor.Fr
namespace Go.Proofs.YtfolmcfcmonkhaaDoor.Fr
open Go Go.RowKit Go.Proofs.YtfolmcfcmonkhaaDoor.PAll Go.Proofs.YtfolmcfcmonkhaaDoorW.PrintWords Go.Proofs.YtfolmcfcmonkhaaDoorW.PrintLast Go.Proofs.YtfolmcfcmonkhaaDoorPw Go.Proofs.YtfolmcfcmonkhaaDoor
set_option linter.unusedVariables false
set_option linter.unusedSimpArgs false
theorem open_l0 (a : ByteArray) : ∀ (suf pre L : List ByteArray) (b : Bool), (b = true ↔ a ∈ suf) → L = pre ++ suf → L.length < 1000 → Ev (fun k => seicheref11_Open.l0 k a L (L.length : Int) (pre.length : Int)) b
  | [], pre, L, b, hb, e, hl => by
    rw [List.append_nil] at e
    subst e
    refine Ev.step (fun _ => seicheref11_Open.l0.eq_2 ..) (ev_neg (by omega) (ev_ret ?_))
    rw [eq_comm, Bool.eq_false_iff]
    exact fun h => absurd (hb.1 h) (by simp)
  | x :: suf, pre, L, b, hb, e, hl => by
    have ln := congrArg List.length e
    rw [List.length_append, List.length_cons] at ln
    have rx : rdOf ByteArray.empty L (pre.length : Int) = x := by
      unfold rdOf
      rw [Int.toNat_natCast, e, List.getD_eq_getElem?_getD, List.getElem?_append_right (Nat.le_refl _), Nat.sub_self]
      rfl
    have w : wrap64 ((pre.length : Int) + 1) = (((pre ++ [x]).length : Nat) : Int) := by rw [w64 (by omega) (by omega)]; simp
    refine Ev.step (fun _ => seicheref11_Open.l0.eq_2 ..) (ev_pos (by omega) (ev_pos (by omega) (ev_pos (by omega) ?_)))
    rw [rx]
    by_cases c : x.toList = a.toList
    · refine ev_pos c (ev_ret ?_)
      rw [eq_comm]
      exact hb.2 (by rw [ba_inj c]; simp)
    · refine ev_neg c ?_
      rw [w]
      refine open_l0 a suf (pre ++ [x]) L b ?_ (by rw [e, List.append_assoc]; rfl) hl
      rw [hb, List.mem_cons]
      exact ⟨fun h => h.elim (fun h => absurd (by rw [h]) c) id, .inr⟩
theorem open_ev (a : ByteArray) : Ev (fun k => seicheref11_Open.f k a) (Lib.containsS wordsL a) := open_l0 a wordsL [] wordsL _ (Lib.containsS_iff _ _) rfl (by decide)
theorem feeds_ev (t : S27) : Ev (fun k => seicheref11_Feeds.f k t.f0 t.f1 t.f2) (endsT t) := by
  have yes : ∀ b : Bool, b = true → Ev (fun k => seicheref11_Feeds.j0 k t.f0 b t.f0 t.f1 t.f2) true := by
    rintro b rfl
    exact Ev.step (fun _ => seicheref11_Feeds.j0.eq_2 ..) (ev_pos rfl (ev_ret rfl))
  unfold seicheref11_Feeds.f
  by_cases c2 : t.f0 = 2
  · have e : endsT t = true := by unfold endsT; rw [if_neg (by omega), if_pos c2]
    rw [e]
    exact ev_pos c2 (yes _ (by rw [c2]; rfl))
  refine ev_neg c2 ?_
  by_cases c3 : t.f0 = 3
  · have e : endsT t = true := by unfold endsT; rw [if_neg (by omega), if_neg c2, if_pos c3]
    rw [e]
    exact ev_pos c3 (yes _ (by rw [c3]; rfl))
  refine ev_neg c3 ?_
  by_cases c4 : t.f0 = 4
  · have e : endsT t = true := by unfold endsT; rw [if_neg (by omega), if_neg c2, if_neg c3, if_pos c4]
    rw [e]
    exact yes _ (by rw [c4]; rfl)
  refine Ev.step (fun _ => seicheref11_Feeds.j0.eq_2 ..) (ev_neg (by simpa using c4) ?_)
  by_cases c1 : t.f0 = 1
  · have e : endsT t = !(Lib.containsS wordsL t.f1) := by unfold endsT; rw [if_pos c1]
    rw [e]
    exact ev_pos c1 (ev_call (open_ev t.f1) (ev_ret rfl))
  refine ev_neg c1 ?_
  by_cases c5 : t.f0 = 5
  · refine ev_pos c5 ?_
    have e : endsT t = Lib.containsS endsL t.f1 := by unfold endsT; rw [if_neg c1, if_neg c2, if_neg c3, if_neg c4, if_pos c5]
    rw [e]
    have key : ∀ x : ByteArray, (t.f1.toList = x.toList) = (t.f1 = x) := fun x => by rw [eq_iff_iff]; exact ba_iff
    have mm : Lib.containsS endsL t.f1 = true ↔ (t.f1 = ⟨#[43, 43]⟩ ∨ t.f1 = ⟨#[45, 45]⟩ ∨ t.f1 = ⟨#[41]⟩ ∨ t.f1 = ⟨#[93]⟩ ∨ t.f1 = ⟨#[125]⟩) := by
      rw [Lib.containsS_iff]
      unfold endsL
      simp only [List.mem_cons, List.not_mem_nil, or_false]
    have k1 : (t.f1.toList = ([43, 43] : List UInt8)) = (t.f1 = ⟨#[43, 43]⟩) := by rw [← key]; simp only [ba_toList]
    have k2 : (t.f1.toList = ([45, 45] : List UInt8)) = (t.f1 = ⟨#[45, 45]⟩) := by rw [← key]; simp only [ba_toList]
    have k3 : (t.f1.toList = ([41] : List UInt8)) = (t.f1 = ⟨#[41]⟩) := by rw [← key]; simp only [ba_toList]
    have k4 : (t.f1.toList = ([93] : List UInt8)) = (t.f1 = ⟨#[93]⟩) := by rw [← key]; simp only [ba_toList]
    have k5 : (t.f1.toList = ([125] : List UInt8)) = (t.f1 = ⟨#[125]⟩) := by rw [← key]; simp only [ba_toList]
    by_cases d1 : t.f1 = ⟨#[43, 43]⟩
    · exact ev_pos (k1.mpr d1) (ev_ret (mm.2 (.inl d1)).symm)
    refine ev_neg (fun h => d1 (k1.mp h)) ?_
    by_cases d2 : t.f1 = ⟨#[45, 45]⟩
    · exact ev_pos (k2.mpr d2) (ev_ret (mm.2 (.inr (.inl d2))).symm)
    refine ev_neg (fun h => d2 (k2.mp h)) ?_
    by_cases d3 : t.f1 = ⟨#[41]⟩
    · exact ev_pos (k3.mpr d3) (ev_ret (mm.2 (.inr (.inr (.inl d3)))).symm)
    refine ev_neg (fun h => d3 (k3.mp h)) ?_
    by_cases d4 : t.f1 = ⟨#[93]⟩
    · exact ev_pos (k4.mpr d4) (ev_ret (mm.2 (.inr (.inr (.inr (.inl d4))))).symm)
    refine ev_neg (fun h => d4 (k4.mp h)) (ev_ret ?_)
    rw [Bool.eq_iff_iff, beq_iff_eq, k5, mm]
    exact ⟨fun h => .inr (.inr (.inr (.inr h))), fun h => h.elim (fun h => absurd h d1) (fun h => h.elim (fun h => absurd h d2) (fun h => h.elim (fun h => absurd h d3) (fun h => h.elim (fun h => absurd h d4) id)))⟩
  · have e : endsT t = false := by unfold endsT; rw [if_neg c1, if_neg c2, if_neg c3, if_neg c4, if_neg c5]
    rw [e]
    exact ev_neg c5 (ev_ret rfl)
end Go.Proofs.YtfolmcfcmonkhaaDoor.Fr
namespace Go.Proofs.YtfolmcfcmonkhaaDoor.Fr
open Go Go.RowKit Go.Proofs.YtfolmcfcmonkhaaDoor.PAll Go.Proofs.YtfolmcfcmonkhaaDoorW.PrintWords Go.Proofs.YtfolmcfcmonkhaaDoorW.PrintLast Go.Proofs.YtfolmcfcmonkhaaDoorPw Go.Proofs.YtfolmcfcmonkhaaDoor
set_option linter.unusedVariables false
set_option linter.unusedSimpArgs false
theorem same_l0 : ∀ (n : Nat) (a b : List S27), a.length = b.length → ∀ (i : Nat) (v : Bool), (v = true ↔ a.drop i = b.drop i) → a.length - i ≤ n → i ≤ a.length → a.length ≤ 9000000 →
    Ev (fun k => seicheref11_Same.l0 k a b (a.length : Int) (i : Int)) v
  | n, a, b, hl, i, v, hv, hn, hi, hm => by
    refine Ev.step (fun _ => seicheref11_Same.l0.eq_2 ..) ?_
    by_cases h0 : a.length ≤ i
    · refine ev_neg (by omega) (ev_ret ?_)
      rw [List.drop_eq_nil_of_le h0, List.drop_eq_nil_of_le (by omega)] at hv
      exact (hv.2 rfl).symm
    have hn' : n ≠ 0 := by omega
    obtain ⟨m, rfl⟩ := Nat.exists_eq_succ_of_ne_zero hn'
    have w : wrap64 ((i : Int) + 1) = ((i + 1 : Nat) : Int) := by rw [w64 (by omega) (by omega)]; omega
    have ih := fun hh => same_l0 m a b hl (i + 1) v hh (by omega) (by omega) hm
    have ra := rd_cons a i (by omega)
    have rb := rd_cons b i (by omega)
    refine ev_pos (by omega) (ev_pos (by omega) (ev_pos (by omega) (ev_pos (by omega) ?_)))
    rw [ra, rb] at hv
    rw [w]
    generalize rd_T27 a (i : Int) = x at hv ⊢
    generalize rd_T27 b (i : Int) = y at hv ⊢
    rw [ba_beq]
    by_cases c : x = y
    · subst c
      refine ev_neg (by simp) (ih ?_)
      rw [hv]
      simp
    · refine ev_pos ?_ (ev_ret ?_)
      · cases x with | mk x0 x1 x2 => ?_
        cases y with | mk y0 y1 y2 => ?_
        simp only [S27.mk.injEq] at c
        simp only [Bool.or_eq_true, Bool.not_eq_true', beq_eq_false_iff_ne, decide_eq_false_iff_not]
        by_cases h1 : x0 = y0
        · by_cases h2 : x1 = y1
          · exact .inr (.inr (fun h3 => c ⟨h1, h2, h3⟩))
          · exact .inr (.inl h2)
        · exact .inl h1
      · rw [eq_comm, Bool.eq_false_iff]
        intro h
        exact c (List.head_eq_of_cons_eq (hv.1 h))
theorem same_ev (a b : List S27) (v : Bool) (hv : v = true ↔ a = b) (hm : a.length ≤ 9000000) : Ev (fun k => seicheref11_Same.f k a b) v := by
  unfold seicheref11_Same.f
  by_cases c : a.length = b.length
  · exact ev_pos (by omega) (same_l0 _ a b c 0 v hv (Nat.le_refl _) (Nat.zero_le _) hm)
  · refine ev_neg (by omega) (ev_ret ?_)
    rw [eq_comm, Bool.eq_false_iff]
    exact fun h => c (by rw [hv.1 h])
theorem skip_f (s : ByteArray) : seicheref10_Skip.f s = some (skp (bytesOf s) : Int) := by
  unfold seicheref10_Skip.f skp
  have hl := bytesOf_length s
  rw [show utf 65279 = [239, 187, 191] by decide, pre_iff, hl]
  by_cases c : (s.size : Int) ≥ 3
  · rw [if_pos c, if_pos (by decide), if_pos c]
    have e : ((s.extract 0 3).toList = ([239, 187, 191] : List UInt8)) ↔ (bytesOf s).take 3 = [239, 187, 191] := by
      rw [ba_toList]
      have e1 : bytesOf (s.extract 0 3) = (bytesOf s).take 3 := by rw [bytesOf_extract, List.drop_zero]
      rw [← e1]
      constructor
      · intro h
        unfold bytesOf
        rw [h]
        rfl
      · intro h
        have : s.extract 0 3 = (⟨#[239, 187, 191]⟩ : ByteArray) := bytes_inj (by rw [h]; rfl)
        rw [this]
    by_cases c2 : (s.extract 0 3).toList = ([239, 187, 191] : List UInt8)
    · rw [if_pos c2, if_pos (decide_eq_true ⟨by show 3 ≤ s.size; omega, e.1 c2⟩)]
      rfl
    · rw [if_neg c2, if_neg (by rw [decide_eq_true_eq]; exact fun h => c2 (e.2 h.2))]
      rfl
  · rw [if_neg c, if_neg (by rw [decide_eq_true_eq]; rintro ⟨h, _⟩; have h : 3 ≤ s.size := h; omega)]
    rfl
end Go.Proofs.YtfolmcfcmonkhaaDoor.Fr
namespace Go.Proofs.YtfolmcfcmonkhaaDoor.Fr
open Go Go.RowKit Go.Proofs.YtfolmcfcmonkhaaDoor.PAll Go.Proofs.YtfolmcfcmonkhaaDoorW.PrintWords Go.Proofs.YtfolmcfcmonkhaaDoorW.PrintLast Go.Proofs.YtfolmcfcmonkhaaDoorPw Go.Proofs.YtfolmcfcmonkhaaDoor
set_option linter.unusedVariables false
set_option linter.unusedSimpArgs false
theorem sign_eq (r : Int) : seicheref10_Sign.f r = some (decide (Sgn r)) := by
  have h : ∀ b : Bool, (b = true ↔ Sgn r) → (some b : Option Bool) = some (decide (Sgn r)) := fun b hb => by
    by_cases c : Sgn r
    · rw [decide_eq_true c, hb.2 c]
    · rw [decide_eq_false c]
      cases b with
      | false => rfl
      | true => exact absurd (hb.1 rfl) c
  unfold seicheref10_Sign.f
  repeat' split
  all_goals (apply h; unfold Sgn; simp; omega)
theorem bytes_eq (r : Int) (h : Sgn r) : seicheref10_Bytes.f r = some (strOfNums (utf r)) := by
  obtain ⟨h1, h2, h3⟩ := h
  unfold seicheref10_Bytes.f utf
  simp only [Int.tdiv_eq_ediv_of_nonneg (show 0 ≤ r by omega), Int.tmod_eq_emod_of_nonneg (show 0 ≤ r by omega)]
  rw [w64 (x := r / 64) (by omega) (by omega), w64 (x := r / 4096) (by omega) (by omega), w64 (x := r / 262144) (by omega) (by omega), Int.tmod_eq_emod_of_nonneg (show 0 ≤ r / 64 by omega), Int.tmod_eq_emod_of_nonneg (show 0 ≤ r / 4096 by omega),
    w64 (x := 192 + r / 64) (by omega) (by omega), w64 (x := 128 + r % 64) (by omega) (by omega), w64 (x := 224 + r / 4096) (by omega) (by omega), w64 (x := 128 + r / 64 % 64) (by omega) (by omega), w64 (x := 240 + r / 262144) (by omega) (by omega), w64 (x := 128 + r / 4096 % 64) (by omega) (by omega)]
  repeat' split
  all_goals (congr 2; simp; omega)
/-- The number that so many bytes tell. -/
def num (l : List Int) : Nat → Int
  | 1 => l.getD 0 0
  | 2 => 64 * (l.getD 0 0 % 32) + l.getD 1 0 % 64
  | 3 => 64 * (64 * (l.getD 0 0 % 16) + l.getD 1 0 % 64) + l.getD 2 0 % 64
  | _ => 64 * (64 * (64 * (l.getD 0 0 % 8) + l.getD 1 0 % 64) + l.getD 2 0 % 64) + l.getD 3 0 % 64
theorem num_utf (r : Int) (h : Sgn r) (t : List Int) : num (utf r ++ t) (utf r).length = r := by
  obtain ⟨h1, h2, h3⟩ := h
  unfold utf
  repeat' split
  all_goals (simp [num]; try omega)
theorem getD_drop (l : List Int) (i j : Nat) : (l.drop i).getD j 0 = l.getD (i + j) 0 := by rw [List.getD_eq_getElem?_getD, List.getD_eq_getElem?_getD, List.getElem?_drop]
theorem shl_eq (n : Nat) (h : 2 ≤ n) (h4 : n ≤ 4) : shl .i64 1 (IntKind.u64.wrap (wrap64 (7 - (n : Int)))) = 2 ^ (7 - n) := by
  match n, h, h4 with
  | 2, _, _ | 3, _, _ | 4, _, _ => decide +kernel
/-- The reference, when so many bytes are tried: does the text begin with the bytes of the number that they tell? -/
def fits (l : List Int) (n : Nat) : Prop := n ≤ l.length ∧ Sgn (num l n) ∧ l.take n = utf (num l n)
theorem fits_iff {l : List Int} {n : Nat} (h1 : 1 ≤ n) (h4 : n ≤ 4) : fits l n ↔ ∃ r t, Sgn r ∧ l = utf r ++ t ∧ (utf r).length = n := by
  constructor
  · rintro ⟨a, b, c⟩
    refine ⟨num l n, l.drop n, b, by rw [← c, List.take_append_drop], ?_⟩
    rw [← c, List.length_take]
    omega
  · rintro ⟨r, t, hr, rfl, rfl⟩
    have hn := num_utf r hr t
    exact ⟨by simp, by rw [hn]; exact hr, by rw [hn, List.take_left]⟩
theorem rl1 (s : ByteArray) (i n : Nat) (x0 : Int) (hs : s.size ≤ 1048576) (hi : i < s.size) (hn1 : 1 ≤ n) (hn4 : n ≤ 4) (hn : i + n ≤ s.size)
    (hx : x0 = if n = 1 then (bytesOf s).getD i 0 else (bytesOf s).getD i 0 % 2 ^ (7 - n)) (r : Int × Int) (Q : ∀ b, (b = false ↔ fits ((bytesOf s).drop i) n) → Ev (fun k => seicheref10_Rune.j5 k s (i : Int) (n : Int) (num ((bytesOf s).drop i) n) b) r) :
    Ev (fun k => seicheref10_Rune.l1 k s (i : Int) (n : Int) x0 1) r := by
  have hl := bytesOf_length s
  have hb : ∀ j, 0 ≤ (bytesOf s).getD j 0 ∧ (bytesOf s).getD j 0 < 256 := fun j => byt_getD (byt_bytesOf s) j
  have last : Ev (fun k => seicheref10_Rune.l1 k s (i : Int) (n : Int) (num ((bytesOf s).drop i) n) (n : Int)) r := by
    refine Ev.step (fun _ => seicheref10_Rune.l1.eq_2 ..) (ev_neg (by omega) (ev_call (ev_eq (sign_eq _)) ?_))
    by_cases c : Sgn (num ((bytesOf s).drop i) n)
    · refine ev_pos (decide_eq_true c) (ev_call (ev_eq (bytes_eq _ c)) ?_)
      rw [w64 (x := (i : Int) + (n : Int)) (by omega) (by omega)]
      refine ev_pos (by omega) (ev_pos (by omega) (ev_pos (by omega) (Q _ ?_)))
      rw [show ((i : Int) + (n : Int)).toNat = i + n by omega, Int.toNat_natCast]
      have e : bytesOf (s.extract i (i + n)) = ((bytesOf s).drop i).take n := by rw [bytesOf_extract, List.drop_take]; congr 1; omega
      rw [bne_eq_false_iff_eq, ba_iff]
      refine ⟨fun h => ⟨by rw [List.length_drop]; omega, c, by rw [← e, ← h, bytes_str (byt_utf c)]⟩, fun h => bytes_inj (by rw [bytes_str (byt_utf c), e, h.2.2])⟩
    · exact ev_neg (by simpa using c) (Q true ⟨(fun h => by cases h), (fun h => absurd h.2.1 c)⟩)
  have step : ∀ (j : Nat) (x : Int), 1 ≤ j → j < n → 0 ≤ x → x < 70000000 → Ev (fun k => seicheref10_Rune.l1 k s (i : Int) (n : Int) (64 * x + (bytesOf s).getD (i + j) 0 % 64) (((j + 1 : Nat)) : Int)) r → Ev (fun k => seicheref10_Rune.l1 k s (i : Int) (n : Int) x (j : Int)) r := by
    intro j x h1 h2 h3 h4 h
    have := hb (i + j)
    refine Ev.step (fun _ => seicheref10_Rune.l1.eq_2 ..) (ev_pos (by omega) ?_)
    rw [w64 (x := (i : Int) + (j : Int)) (by omega) (by omega), show bt s ((i : Int) + (j : Int)) = (bytesOf s).getD (i + j) 0 by rw [bytesOf_getD]; rfl]
    refine ev_pos (by omega) (ev_pos (by omega) ?_)
    rw [w64 (x := (bytesOf s).getD (i + j) 0) (by omega) (by omega), Int.tmod_eq_emod_of_nonneg (by omega), w64 (x := 64 * x) (by omega) (by omega), w64 (x := 64 * x + (bytesOf s).getD (i + j) 0 % 64) (by omega) (by omega), w64 (x := (j : Int) + 1) (by omega) (by omega)]
    exact h
  have b0 := hb i
  have b1 := hb (i + 1)
  have b2 := hb (i + 2)
  have b3 := hb (i + 3)
  subst hx
  match n, hn1, hn4 with
  | 1, _, _ =>
    have : num ((bytesOf s).drop i) 1 = (bytesOf s).getD i 0 := by unfold num; rw [getD_drop]; rfl
    rw [this] at last
    rw [if_pos rfl]
    exact last
  | 2, _, _ =>
    have e : num ((bytesOf s).drop i) 2 = 64 * ((bytesOf s).getD i 0 % 32) + (bytesOf s).getD (i + 1) 0 % 64 := by unfold num; rw [getD_drop, getD_drop]; rfl
    rw [e] at last
    rw [if_neg (by omega), show (2 : Int) ^ (7 - 2) = 32 from rfl]
    exact step 1 _ (by omega) (by omega) (by omega) (by omega) last
  | 3, _, _ =>
    have e : num ((bytesOf s).drop i) 3 = 64 * (64 * ((bytesOf s).getD i 0 % 16) + (bytesOf s).getD (i + 1) 0 % 64) + (bytesOf s).getD (i + 2) 0 % 64 := by unfold num; rw [getD_drop, getD_drop, getD_drop]; rfl
    rw [e] at last
    rw [if_neg (by omega), show (2 : Int) ^ (7 - 3) = 16 from rfl]
    exact step 1 _ (by omega) (by omega) (by omega) (by omega) (step 2 _ (by omega) (by omega) (by omega) (by omega) last)
  | 4, _, _ =>
    have e : num ((bytesOf s).drop i) 4 = 64 * (64 * (64 * ((bytesOf s).getD i 0 % 8) + (bytesOf s).getD (i + 1) 0 % 64) + (bytesOf s).getD (i + 2) 0 % 64) + (bytesOf s).getD (i + 3) 0 % 64 := by unfold num; rw [getD_drop, getD_drop, getD_drop, getD_drop]; rfl
    rw [e] at last
    rw [if_neg (by omega), show (2 : Int) ^ (7 - 4) = 8 from rfl]
    exact step 1 _ (by omega) (by omega) (by omega) (by omega) (step 2 _ (by omega) (by omega) (by omega) (by omega) (step 3 _ (by omega) (by omega) (by omega) (by omega) last))
theorem rl0 (s : ByteArray) (i : Nat) (hs : s.size ≤ 1048576) (hi : i < s.size) : ∀ (d n : Nat), n + d = 5 → 1 ≤ n → (∀ m, 1 ≤ m → m < n → ¬ fits ((bytesOf s).drop i) m) →
    Ev (fun k => seicheref10_Rune.l0 k s (i : Int) (n : Int)) (answer (bytesOf s) (i : Int))
  | d, n, hd, hn1, hno => by
    have hl := bytesOf_length s
    have hlen : ((bytesOf s).drop i).length = s.size - i := by rw [List.length_drop, hl]
    have bad : (∀ m, 1 ≤ m → m ≤ 4 → ¬ fits ((bytesOf s).drop i) m) → answer (bytesOf s) (i : Int) = (-1, 1) := by
      intro h
      rcases D_cases (byt_drop (byt_bytesOf s) i) (by omega) with ⟨h1, h2, _⟩ | ⟨t, h1, h2, h3⟩
      · exact answer_bad (by omega) h2 h1
      · have u := utf_len (D ((bytesOf s).drop i)).1
        exact absurd ((fits_iff u.1 u.2).2 ⟨_, t, h1, h2, rfl⟩) (h _ u.1 u.2)
    by_cases c : (n : Int) ≤ 4
    case neg =>
      rw [bad (fun m h1 h4 => hno m h1 (by omega))]
      exact Ev.step (fun _ => seicheref10_Rune.l0.eq_2 ..) (ev_neg c (Ev.step (fun _ => seicheref10_Rune.j2.eq_2 ..) (ev_neg (by simp) (Ev.now _))))
    refine Ev.step (fun _ => seicheref10_Rune.l0.eq_2 ..) (ev_pos c ?_)
    rw [w64 (x := (s.size : Int) - (i : Int)) (by omega) (by omega)]
    by_cases c2 : (n : Int) ≤ (s.size : Int) - (i : Int)
    case neg =>
      rw [decide_eq_false c2, bad (fun m h1 h4 hf => by
        by_cases hm : m < n
        · exact hno m h1 hm hf
        · have := hf.1; omega)]
      exact Ev.step (fun _ => seicheref10_Rune.j2.eq_2 ..) (ev_neg (by simp) (Ev.now _))
    rw [decide_eq_true c2]
    have Q : ∀ b, (b = false ↔ fits ((bytesOf s).drop i) n) → Ev (fun k => seicheref10_Rune.j5 k s (i : Int) (n : Int) (num ((bytesOf s).drop i) n) b) (answer (bytesOf s) (i : Int)) := by
      intro b hb
      cases b with
      | true =>
        have hnf : ¬ fits ((bytesOf s).drop i) n := fun h => by have := hb.2 h; cases this
        match d, hd with
        | 0, hd => exact absurd hd (by omega)
        | d + 1, hd =>
          have := rl0 s i hs hi d (n + 1) (by omega) (by omega) (fun m h1 h2 => by
            by_cases hm : m = n
            · subst hm; exact hnf
            · exact hno m h1 (by omega))
          refine Ev.step (fun _ => seicheref10_Rune.j5.eq_2 ..) (ev_pos rfl ?_)
          rw [w64 (x := (n : Int) + 1) (by omega) (by omega)]
          exact this
      | false =>
        have hf := hb.1 rfl
        obtain ⟨r, t, hr, hd2, hln⟩ := (fits_iff hn1 (by omega)).1 hf
        have hD := D_utf r hr t
        have hnum := num_utf r hr t
        rw [← hd2] at hD hnum
        rw [hln] at hnum hD
        have ha : answer (bytesOf s) (i : Int) = if r = 65279 ∧ 0 < (i : Int) then (-1, 3) else (r, (n : Int)) := by rw [answer_at hr hd2, hln]
        rw [hnum]
        generalize answer (bytesOf s) (i : Int) = R at ha ⊢
        refine Ev.step (fun _ => seicheref10_Rune.j5.eq_2 ..) (ev_neg (by simp) ?_)
        by_cases a : r = 65279
        · by_cases b : (i : Int) > 0
          · rw [if_pos ⟨a, b⟩] at ha; subst ha; exact ev_pos a (ev_pos b (Ev.now _))
          · rw [if_neg (fun h => b h.2)] at ha; subst ha; exact ev_pos a (ev_neg b (Ev.now _))
        · rw [if_neg (fun h => a h.1)] at ha; subst ha; exact ev_neg a (Ev.now _)
    have hbi : bt s (i : Int) = (bytesOf s).getD i 0 := (bytesOf_getD s i).symm
    have hb0 := byt_getD (byt_bytesOf s) i
    refine Ev.step (fun _ => seicheref10_Rune.j2.eq_2 ..) (ev_pos rfl (ev_pos (by omega) (ev_pos (by omega) ?_)))
    rw [hbi, w64 (x := (bytesOf s).getD i 0) (by omega) (by omega)]
    by_cases c3 : (n : Int) > 1
    · refine ev_pos c3 ?_
      rw [shl_eq n (by omega) (by omega)]
      have hp : (0 : Int) < 2 ^ (7 - n) := Int.pow_pos (by omega)
      refine ev_pos (by rw [w64 (by omega) (by omega)]; unfold IntKind.wrap; simp only [IntKind.bits, IntKind.signed]; simp; omega) (ev_neg (by omega) (Ev.step (fun _ => seicheref10_Rune.j3.eq_2 ..) ?_))
      rw [Int.tmod_eq_emod_of_nonneg hb0.1]
      exact rl1 s i n _ hs hi hn1 (by omega) (by omega) (by rw [if_neg (by omega)]) _ Q
    · refine ev_neg c3 (Ev.step (fun _ => seicheref10_Rune.j3.eq_2 ..) ?_)
      exact rl1 s i n _ hs hi hn1 (by omega) (by omega) (by rw [if_pos (by omega)]) _ Q
  termination_by d => d
theorem rrune_ev (s : ByteArray) (at_ : Int) (hs : s.size ≤ 1048576) : Ev (fun k => seicheref10_Rune.f k s at_) (answer (bytesOf s) at_) := by
  have hl := bytesOf_length s
  have yes : (at_ < 0 ∨ (s.size : Int) ≤ at_) → Ev (fun k => seicheref10_Rune.j0 k s at_ true) (answer (bytesOf s) at_) := fun h => by
    rw [answer_out (by rw [hl]; exact h)]
    exact Ev.step (fun _ => seicheref10_Rune.j0.eq_2 ..) (ev_pos rfl (Ev.now _))
  by_cases c0 : at_ < 0
  · exact ev_pos c0 (yes (.inl c0))
  refine ev_neg c0 ?_
  by_cases c1 : at_ ≥ (s.size : Int)
  · rw [decide_eq_true c1]
    exact yes (.inr c1)
  rw [decide_eq_false c1]
  obtain ⟨i, rfl⟩ := Int.eq_ofNat_of_zero_le (by omega : 0 ≤ at_)
  exact Ev.step (fun _ => seicheref10_Rune.j0.eq_2 ..) (ev_neg (by simp) (rl0 s i hs (by omega) 4 1 (by omega) (by omega) (fun m h1 h2 => by omega)))
end Go.Proofs.YtfolmcfcmonkhaaDoor.Fr
namespace Go.Proofs.YtfolmcfcmonkhaaDoor.Fr
open Go Go.RowKit Go.Proofs.YtfolmcfcmonkhaaDoor.PAll Go.Proofs.YtfolmcfcmonkhaaDoorW.PrintWords Go.Proofs.YtfolmcfcmonkhaaDoorW.PrintLast Go.Proofs.YtfolmcfcmonkhaaDoorPw Go.Proofs.YtfolmcfcmonkhaaDoor
set_option linter.unusedVariables false
set_option linter.unusedSimpArgs false
theorem rletter_f (r : Int) : seicheref10_Letter.f r = some (isL r) := by
  unfold seicheref10_Letter.f isL
  repeat' split
  all_goals (congr 1; rw [Bool.eq_iff_iff]; simp; try omega)
theorem rdigit_f (r : Int) : seicheref10_Digit.f r = some (isD r) := by
  unfold seicheref10_Digit.f isD
  split
  all_goals (congr 1; simp; try omega)
theorem rblank_f (r : Int) : seicheref10_Blank.f r = some (decide (r = 32 ∨ r = 9 ∨ r = 13)) := by
  unfold seicheref10_Blank.f
  repeat' split
  all_goals (congr 1; rw [Bool.eq_iff_iff]; simp [*])
/-- What the reference answers of a thing at a place. -/
def enc (i : Nat) : Th → Int × Int × Int
  | .bad o => (7, 0, ((i + o : Nat) : Int))
  | .blank => (-1, 1, 0)
  | .feed => (-2, 1, 0)
  | .note n f => (if f = true then -4 else -3, (n : Int), 0)
  | .tok k n => (k, (n : Int), 0)
/-- What a text's end answers. -/
def uenc (i : Nat) (kd : Int) : Un → Int × Int × Int
  | .ok j => if kd = 3 ∧ j = 2 then (7, 0, (i : Int)) else (kd, (j : Int), 0)
  | .frm => (7, 0, (i : Int))
  | .bad o => (7, 0, ((i + o : Nat) : Int))
abbrev qst (q : Int) : List Int := if q = 96 then [] else [10]
theorem enc_qt (i : Nat) (kd q : Int) (l : List Int) : enc i (qt kd q l) = uenc i kd (un [q] (decide (q ≠ 96)) (qst q) 1 (l.drop 1)) := by
  rw [qt, dp_eq (Nat.le_refl 1)]
  unfold qst
  cases un [q] (decide (q ≠ 96)) (if q = 96 then [] else [10]) 1 (l.drop 1) with
  | frm => rfl
  | bad o => rfl
  | ok j =>
    show enc i (if kd = 3 ∧ j = 2 then .bad 0 else .tok kd j) = if kd = 3 ∧ j = 2 then _ else _
    split <;> rfl
section
variable {s : ByteArray} (hs : s.size ≤ 1048576)
include hs
theorem begins_f (i : Nat) (hi : i ≤ s.size) (x : ByteArray) (hx : x.size ≤ 1048576) : seicheref11_begins.f s (i : Int) x = some ((bytesOf x).isPrefixOf ((bytesOf s).drop i)) := by
  have hl := bytesOf_length s
  have hlx := bytesOf_length x
  unfold seicheref11_begins.f
  have w : wrap64 ((s.size : Int) - (x.size : Int)) = (s.size : Int) - (x.size : Int) := w64 (by omega) (by omega)
  have w2 : wrap64 ((i : Int) + (x.size : Int)) = ((i + x.size : Nat) : Int) := by rw [w64 (by omega) (by omega)]; omega
  rw [w, w2, if_pos (by omega), pre_iff, hlx, List.length_drop, hl]
  by_cases c : i + x.size ≤ s.size
  · rw [if_pos (by omega), if_pos (by omega), if_pos (by omega), if_pos (by omega), Int.toNat_natCast, Int.toNat_natCast, ba_beq, part_eq]
    congr 1
    rw [decide_eq_decide]
    constructor
    · intro h
      refine ⟨by omega, ?_⟩
      have h2 := congrArg bytesOf h
      rw [bytes_str (byt_take (byt_drop (byt_bytesOf s) i) _)] at h2
      exact h2
    · rintro ⟨_, h⟩
      rw [h, str_bytes]
  · rw [if_neg (by omega), decide_eq_false (by rintro ⟨h, _⟩; omega)]
theorem rrune_at {i : Nat} (h : Pos s i) : Ev (fun k => seicheref10_Rune.f k s (i : Int)) (sr ((bytesOf s).drop i), (sn ((bytesOf s).drop i) : Int)) := by
  rw [← answer_sg (byt_bytesOf s) h]
  exact rrune_ev s i hs
theorem name_l0 (i : Nat) : ∀ (n c : Nat), s.size - (i + c) ≤ n → i + c ≤ s.size → Pos s (i + c) →
    Ev (fun k => seicheref11_name.l0 k s (i : Int) (c : Int)) ((c + nm ((bytesOf s).drop (i + c)) : Nat) : Int)
  | n, c, hn, hi, hp => by
    have hl := bytesOf_length s
    have w : wrap64 ((i : Int) + (c : Int)) = ((i + c : Nat) : Int) := by rw [w64 (by omega) (by omega)]; omega
    refine Ev.step (fun _ => seicheref11_name.l0.eq_2 ..) ?_
    rw [w]
    refine ev_call (rrune_at hs hp) ?_
    have hb := byt_drop (byt_bytesOf s) (i + c)
    by_cases c0 : (isL (sr ((bytesOf s).drop (i + c))) || isD (sr ((bytesOf s).drop (i + c)))) = true
    · have h0 : (bytesOf s).drop (i + c) ≠ [] := by
        intro e
        rw [e, sg_nil.1] at c0
        exact absurd c0 (by decide)
      have sp := sn_pos hb h0
      rw [List.length_drop] at sp
      have e : nm ((bytesOf s).drop (i + c)) = sn ((bytesOf s).drop (i + c)) + nm ((bytesOf s).drop (i + (c + sn ((bytesOf s).drop (i + c))))) := by
        rw [nm, dif_pos ⟨h0, c0⟩, dp_sn hb h0, List.drop_drop, Nat.add_assoc]
      have hn' : n ≠ 0 := by omega
      obtain ⟨m, rfl⟩ := Nat.exists_eq_succ_of_ne_zero hn'
      have ih := name_l0 i m (c + sn ((bytesOf s).drop (i + c))) (by omega) (by omega) (.inl (by omega))
      have w2 : wrap64 ((c : Int) + (sn ((bytesOf s).drop (i + c)) : Int)) = ((c + sn ((bytesOf s).drop (i + c)) : Nat) : Int) := by rw [w64 (by omega) (by omega)]; omega
      rw [e, ← Nat.add_assoc]
      have p0 : ¬ sr ((bytesOf s).drop (i + c)) < 0 := by
        intro h
        unfold isL isD at c0
        simp at c0
        omega
      refine ev_neg p0 (ev_call (ev_eq (rletter_f _)) ?_)
      dsimp only
      rw [w2]
      by_cases cl : isL (sr ((bytesOf s).drop (i + c))) = true
      · exact ev_pos cl ih
      · refine ev_neg cl (ev_call (ev_eq (rdigit_f _)) (ev_pos ?_ ih))
        simpa [Bool.eq_false_iff.mpr cl] using c0
    · have e : nm ((bytesOf s).drop (i + c)) = 0 := by rw [nm, dif_neg (fun h => c0 h.2)]
      rw [e]
      have c2 := Bool.eq_false_iff.mpr c0
      rw [Bool.or_eq_false_iff] at c2
      by_cases p0 : sr ((bytesOf s).drop (i + c)) < 0
      · exact ev_pos p0 (ev_ret rfl)
      · exact ev_neg p0 (ev_call (ev_eq (rletter_f _)) (ev_neg (by rw [c2.1]; decide) (ev_call (ev_eq (rdigit_f _)) (ev_neg (by rw [c2.2]; decide) (ev_ret rfl)))))
theorem name_ev (i : Nat) (hi : i ≤ s.size) (hp : Pos s i) : Ev (fun k => seicheref11_name.f k s (i : Int)) ((nm ((bytesOf s).drop i) : Nat) : Int) := by
  have := name_l0 hs i _ 0 (Nat.le_refl _) hi hp
  rw [Nat.add_zero, Nat.zero_add] at this
  exact this
theorem rnum_j3 (a : Nat) (hex : Bool) (c : Nat) (prev b : Int) (R : Int) (hi : a + c < s.size) (hp : 0 < c → prev = bt s ((a + c - 1 : Nat) : Int)) (h0 : c = 0 → prev = 0)
    (go : okN hex prev b = true → Ev (fun k => seicheref11_number.l0 k s (a : Int) hex (wrap64 ((c : Int) + 1))) R) (stop : okN hex prev b = false → (c : Int) = R)
    (f y : Bool) (hf : f = ok2 b) (hy : y = (decide (0 < c) && decide (b = 43 ∨ b = 45))) : Ev (fun k => seicheref11_number.j3 k s (a : Int) hex (c : Int) f y) R := by
  refine Ev.step (fun _ => seicheref11_number.j3.eq_2 ..) ?_
  cases y with
  | true =>
    have hy := hy.symm
    rw [Bool.and_eq_true, decide_eq_true_eq, decide_eq_true_eq] at hy
    obtain ⟨y1, y2⟩ := hy
    have w2 : wrap64 (wrap64 ((a : Int) + (c : Int)) - 1) = ((a + c - 1 : Nat) : Int) := by
      rw [w64 (x := (a : Int) + (c : Int)) (by omega) (by omega), w64 (by omega) (by omega)]; omega
    rw [w2, ← hp y1]
    have ok : okN hex prev b = (decide (prev = 112 ∨ prev = 80) || (!hex && decide (prev = 101 ∨ prev = 69))) := by unfold okN; rw [if_pos y2]
    rw [ok] at go stop
    refine ev_pos rfl (ev_pos (by omega) (ev_pos (by omega) ?_))
    by_cases e1 : prev = 112
    · exact ev_pos e1 (go (by simp [e1]))
    refine ev_neg e1 ?_
    by_cases e2 : prev = 80
    · exact ev_pos e2 (go (by simp [e2]))
    refine ev_neg e2 ?_
    by_cases e3 : hex = true
    · exact ev_pos e3 (ev_ret (stop (by simp [e1, e2, e3])))
    refine ev_neg e3 ?_
    by_cases e4 : prev = 101
    · exact ev_pos e4 (go (by simp [e3, e4]))
    refine ev_neg e4 ?_
    by_cases e5 : prev = 69
    · exact ev_pos e5 (go (by simp [e3, e5]))
    · exact ev_neg e5 (ev_ret (stop (by simp [e1, e2, e4, e5])))
  | false =>
    have ok : okN hex prev b = ok2 b := by
      rw [okN_pw]
      have : pw hex prev b = false := by
        unfold pw
        by_cases c2 : c = 0
        · rw [h0 c2]
          simp
        · rw [decide_eq_true (Nat.pos_of_ne_zero c2), Bool.true_and] at hy
          rw [← hy, Bool.false_and]
      rw [this, Bool.false_or]
    rw [ok, ← hf] at go stop
    refine ev_neg Bool.false_ne_true ?_
    by_cases c2 : f = true
    · exact ev_pos c2 (go c2)
    · exact ev_neg c2 (ev_ret (stop (Bool.eq_false_iff.mpr c2)))
theorem rnum_round (a : Nat) (hex : Bool) (c : Nat) (prev b : Int) (R : Int) (hi : a + c < s.size) (hb : bt s ((a + c : Nat) : Int) = b) (hp : 0 < c → prev = bt s ((a + c - 1 : Nat) : Int)) (h0 : c = 0 → prev = 0)
    (go : okN hex prev b = true → Ev (fun k => seicheref11_number.l0 k s (a : Int) hex (wrap64 ((c : Int) + 1))) R) (stop : okN hex prev b = false → (c : Int) = R) : Ev (fun k => seicheref11_number.l0 k s (a : Int) hex (c : Int)) R := by
  refine Ev.step (fun _ => seicheref11_number.l0.eq_2 ..) ?_
  have w : wrap64 ((a : Int) + (c : Int)) = ((a + c : Nat) : Int) := by rw [w64 (by omega) (by omega)]; omega
  have br := bt_range s ((a + c : Nat) : Int)
  have wb : wrap64 (bt s ((a + c : Nat) : Int)) = bt s ((a + c : Nat) : Int) := w64 (by omega) (by omega)
  have j3 := rnum_j3 hs a hex c prev b R hi hp h0 go stop
  rw [w, wb, hb]
  have s2 : ∀ f : Bool, f = ok2 b → Ev (fun k => seicheref11_number.j2 k s (a : Int) hex (c : Int) b f) R := by
    intro f hf
    refine Ev.step (fun _ => seicheref11_number.j2.eq_2 ..) ?_
    by_cases c1 : 0 < c
    · refine ev_pos (by omega) ?_
      by_cases c2 : b = 43
      · exact ev_pos c2 (j3 _ _ hf (by simp [c1, c2]))
      · refine ev_neg c2 (j3 _ _ hf ?_)
        rw [Bool.eq_iff_iff]
        simp [c1, c2]
    · exact ev_neg (by omega) (j3 _ _ hf (by rw [decide_eq_false c1]; rfl))
  clear j3 go stop hp h0
  refine ev_pos (by omega) (ev_pos (by omega) ?_)
  unfold ok2 at s2
  by_cases c1 : b = 46
  · exact ev_pos c1 (s2 _ (by simp [c1]))
  refine ev_neg c1 ?_
  by_cases c2 : b < 128
  · refine ev_pos c2 (ev_call (ev_eq (rletter_f _)) ?_)
    by_cases c3 : isL b = true
    · exact ev_pos c3 (s2 _ (by simp [c2, c3]))
    · exact ev_neg c3 (ev_call (ev_eq (rdigit_f _)) (s2 _ (by simp [c1, c2, c3])))
  · exact ev_neg c2 (s2 _ (by simp [c1, c2]))
theorem rnum_l0 (a : Nat) (hex : Bool) : ∀ (n c : Nat) (prev : Int), s.size - (a + c) ≤ n → a + c ≤ s.size → (0 < c → prev = bt s ((a + c - 1 : Nat) : Int)) → (c = 0 → prev = 0) →
    Ev (fun k => seicheref11_number.l0 k s (a : Int) hex (c : Int)) ((c + nl hex prev ((bytesOf s).drop (a + c)) : Nat) : Int)
  | n, c, prev, hn, hi, hp, h0 => by
    by_cases hz : s.size ≤ a + c
    · have w : wrap64 ((a : Int) + (c : Int)) = ((a + c : Nat) : Int) := by rw [w64 (by omega) (by omega)]; omega
      refine Ev.step (fun _ => seicheref11_number.l0.eq_2 ..) ?_
      rw [w, drop_nil hz]
      exact ev_neg (by omega) (ev_ret rfl)
    have hn' : n ≠ 0 := by omega
    obtain ⟨m, rfl⟩ := Nat.exists_eq_succ_of_ne_zero hn'
    have ih := rnum_l0 a hex m (c + 1) (bt s ((a + c : Nat) : Int)) (by omega) (by omega) (fun _ => by congr 1) (fun h => by omega)
    have w1 : wrap64 ((c : Int) + 1) = ((c + 1 : Nat) : Int) := by rw [w64 (by omega) (by omega)]; omega
    rw [drop_bt (by omega)]
    refine rnum_round hs a hex c prev _ _ (by omega) rfl hp h0 (fun h => ?_) (fun h => ?_)
    · rw [nl, if_pos h, w1, ← Nat.add_assoc]
      exact ih
    · rw [nl, h]
      rfl
theorem rnumber_ev (a : Nat) (ha : a ≤ s.size) : Ev (fun k => seicheref11_number.f k s (a : Int)) ((nl (isHex ((bytesOf s).drop a)) 0 ((bytesOf s).drop a) : Nat) : Int) := by
  unfold seicheref11_number.f
  have h : ∀ hex : Bool, Ev (fun k => seicheref11_number.j0 k s (a : Int) hex) ((nl hex 0 ((bytesOf s).drop a) : Nat) : Int) := by
    intro hex
    have := rnum_l0 hs a hex _ 0 0 (Nat.le_refl _) ha (fun h => absurd h (by decide)) (fun _ => rfl)
    rw [Nat.add_zero, Nat.zero_add] at this
    exact Ev.step (fun _ => seicheref11_number.j0.eq_2 ..) this
  refine ev_call (ev_eq (begins_f hs a ha _ (by decide))) ?_
  unfold isHex
  by_cases c1 : (bytesOf (⟨#[48, 120]⟩ : ByteArray)).isPrefixOf ((bytesOf s).drop a) = true
  · refine ev_pos c1 ?_
    have c1' : ([48, 120] : List Int).isPrefixOf ((bytesOf s).drop a) = true := c1
    rw [c1', Bool.true_or]
    exact h true
  · refine ev_neg c1 (ev_call (ev_eq (begins_f hs a ha _ (by decide))) ?_)
    have c1' : ([48, 120] : List Int).isPrefixOf ((bytesOf s).drop a) = false := Bool.eq_false_iff.mpr c1
    rw [c1', Bool.false_or]
    exact h _
/-- What is left of a text between quotes, told as the reference tells it. -/
def QI (s : ByteArray) (i : Nat) (kd q : Int) (c : Nat) : Prop := Ev (fun k => seicheref11_quoted.l0 k s (i : Int) kd q (q == 96) ((i + c : Nat) : Int)) (uenc i kd (un [q] (decide (q ≠ 96)) (qst q) c ((bytesOf s).drop (i + c))))
theorem quoted_esc (i : Nat) (kd q : Int) (hq : q ≠ 96) (c : Nat) (hi : i + c ≤ s.size) (hc : 0 < i + c) (ih : ∀ c', c < c' → i + c' ≤ s.size → QI s i kd q c') :
    Ev (fun k => seicheref11_quoted.j2 k s (i : Int) kd q (q == 96) ((i + c : Nat) : Int) true) (uenc i kd (unC [q] (qst q) c ((bytesOf s).drop (i + c)))) := by
  have hl := bytesOf_length s
  have hb := byt_drop (byt_bytesOf s) (i + c)
  refine Ev.step (fun _ => seicheref11_quoted.j2.eq_2 ..) (ev_pos rfl (ev_call (rrune_at hs (.inl hc)) ?_))
  rw [unC]
  have fall : ∀ (g : Bool) (x y : Int), g = true → Ev (fun k => seicheref11_quoted.j3 k s (i : Int) kd q (q == 96) ((i + c : Nat) : Int) x y g) (7, 0, (i : Int)) := by
    rintro g x y rfl
    exact Ev.step (fun _ => seicheref11_quoted.j3.eq_2 ..) (ev_pos rfl (ev_ret rfl))
  by_cases h1 : (bytesOf s).drop (i + c) = []
  · rw [if_pos h1]
    exact ev_pos (by rw [h1, sg_nil.2]; rfl) (fall _ _ _ rfl)
  rw [if_neg h1]
  have sp := sn_pos hb h1
  have sl : i + (c + sn ((bytesOf s).drop (i + c))) ≤ s.size ∧ sn ((bytesOf s).drop (i + c)) ≠ 0 := by
    rw [List.length_drop] at sp
    omega
  refine ev_neg (by omega) ?_
  by_cases c6 : sr ((bytesOf s).drop (i + c)) = 10
  · rw [if_pos c6]
    exact fall _ _ _ (by rw [c6]; rfl)
  rw [if_neg c6]
  have g0 : (sr ((bytesOf s).drop (i + c)) == 10) = false := by simpa using c6
  dsimp only
  rw [g0]
  refine Ev.step (fun _ => seicheref11_quoted.j3.eq_2 ..) (ev_neg Bool.false_ne_true ?_)
  by_cases c7 : sr ((bytesOf s).drop (i + c)) < 0
  · rw [if_pos c7]
    exact ev_pos c7 (ev_ret rfl)
  rw [if_neg c7]
  refine ev_neg c7 ?_
  have w2 : wrap64 (((i + c : Nat) : Int) + (sn ((bytesOf s).drop (i + c)) : Int)) = ((i + (c + sn ((bytesOf s).drop (i + c))) : Nat) : Int) := by
    rw [w64 (by omega) (by omega)]; omega
  have ds2 : dp ((bytesOf s).drop (i + c)) (sn ((bytesOf s).drop (i + c))) = (bytesOf s).drop (i + (c + sn ((bytesOf s).drop (i + c)))) := by rw [dp_sn hb h1, List.drop_drop, Nat.add_assoc]
  rw [w2, ds2]
  have := ih (c + sn ((bytesOf s).drop (i + c))) (by omega) sl.1
  unfold QI at this
  rw [decide_eq_true hq] at this
  exact this
theorem quoted_rest (i : Nat) (kd q : Int) (c : Nat) (hi : i + c < s.size) (hc : 0 < i + c) (ih : ∀ c', c < c' → i + c' ≤ s.size → QI s i kd q c') :
    Ev (fun k => seicheref11_quoted.j1 k s (i : Int) kd q (q == 96) ((i + c : Nat) : Int) false) (uenc i kd (unB [q] (decide (q ≠ 96)) (qst q) c ((bytesOf s).drop (i + c)))) := by
  have hl := bytesOf_length s
  have hb := byt_drop (byt_bytesOf s) (i + c)
  have h0 : (bytesOf s).drop (i + c) ≠ [] := by rw [drop_bt hi]; simp
  refine Ev.step (fun _ => seicheref11_quoted.j1.eq_2 ..) (ev_neg Bool.false_ne_true (ev_call (rrune_at hs (.inl hc)) ?_))
  rw [unB]
  by_cases d1 : sr ((bytesOf s).drop (i + c)) < 0
  · rw [if_pos d1]
    exact ev_pos d1 (ev_ret rfl)
  rw [if_neg d1]
  refine ev_neg d1 ?_
  dsimp only
  have sp := sn_pos hb h0
  have sl : i + (c + sn ((bytesOf s).drop (i + c))) ≤ s.size ∧ sn ((bytesOf s).drop (i + c)) ≠ 0 := by
    rw [List.length_drop] at sp
    omega
  have w3 : wrap64 (((i + c : Nat) : Int) + (sn ((bytesOf s).drop (i + c)) : Int)) = ((i + (c + sn ((bytesOf s).drop (i + c))) : Nat) : Int) := by rw [w64 (by omega) (by omega)]; omega
  have ds : dp ((bytesOf s).drop (i + c)) (sn ((bytesOf s).drop (i + c))) = (bytesOf s).drop (i + (c + sn ((bytesOf s).drop (i + c)))) := by rw [dp_sn hb h0, List.drop_drop, Nat.add_assoc]
  rw [w3, ds]
  have fin : ∀ g : Bool, g = false → Ev (fun k => seicheref11_quoted.j2 k s (i : Int) kd q (q == 96) ((i + (c + sn ((bytesOf s).drop (i + c))) : Nat) : Int) g) (uenc i kd (un [q] (decide (q ≠ 96)) (qst q) (c + sn ((bytesOf s).drop (i + c))) ((bytesOf s).drop (i + (c + sn ((bytesOf s).drop (i + c))))))) := by
    rintro g rfl
    exact Ev.step (fun _ => seicheref11_quoted.j2.eq_2 ..) (ev_neg Bool.false_ne_true (ih _ (by omega) sl.1))
  by_cases d2 : sr ((bytesOf s).drop (i + c)) = 92
  · refine ev_pos d2 ?_
    by_cases d3 : q = 96
    · rw [if_neg (by rintro ⟨h, _⟩; simp [d3] at h)]
      exact fin _ (by rw [d3]; rfl)
    · rw [if_pos ⟨decide_eq_true d3, d2⟩]
      have qb : (!(q == 96)) = true := by simp [d3]
      rw [qb]
      exact quoted_esc hs i kd q d3 _ sl.1 (by omega) (fun c' h1 h2 => ih c' (by omega) h2)
  · rw [if_neg (fun h => d2 h.2)]
    exact ev_neg d2 (fin _ rfl)
theorem quoted_round (i : Nat) (kd q : Int) (c : Nat) (hi : i + c ≤ s.size) (hc : 1 ≤ c) (ih : ∀ c', c < c' → i + c' ≤ s.size → QI s i kd q c') : QI s i kd q c := by
  have hl := bytesOf_length s
  unfold QI
  refine Ev.step (fun _ => seicheref11_quoted.l0.eq_2 ..) ?_
  rw [un_eq]
  by_cases h0 : s.size ≤ i + c
  · rw [drop_nil h0, if_pos rfl]
    exact ev_neg (by omega) (ev_ret rfl)
  have dc := drop_bt (s := s) (i := i + c) (by omega)
  have ne : (bytesOf s).drop (i + c) ≠ [] := by rw [dc]; simp
  have rest := quoted_rest hs i kd q c (by omega) (by omega) ih
  rw [if_neg ne]
  have p1 : ∀ x : Int, ([x] : List Int).isPrefixOf ((bytesOf s).drop (i + c)) = decide (bt s ((i + c : Nat) : Int) = x) := by
    intro x
    rw [dc]
    by_cases h : bt s ((i + c : Nat) : Int) = x
    · rw [decide_eq_true h, h]; simp [List.isPrefixOf]
    · have h2 : ¬ x = bt s ((i + c : Nat) : Int) := fun e => h e.symm
      have h3 : (x == bt s ((i + c : Nat) : Int)) = false := beq_eq_false_iff_ne.mpr h2
      rw [decide_eq_false h, List.isPrefixOf, h3, Bool.false_and]
  refine ev_pos (by omega) (ev_pos (by omega) ?_)
  rw [p1]
  by_cases c1 : bt s ((i + c : Nat) : Int) = q
  · have w1 : wrap64 ((i : Int) + 1) = ((i + 1 : Nat) : Int) := by rw [w64 (by omega) (by omega)]; omega
    have w2 : wrap64 (wrap64 (((i + c : Nat) : Int) + 1) - (i : Int)) = ((c + 1 : Nat) : Int) := by rw [w64 (x := ((i + c : Nat) : Int) + 1) (by omega) (by omega), w64 (by omega) (by omega)]; omega
    rw [decide_eq_true c1, if_pos rfl]
    refine ev_pos c1 ?_
    rw [w1, w2]
    show Ev _ (uenc i kd (Un.ok (c + 1)))
    have u1 : kd = 3 ∧ c + 1 = 2 → uenc i kd (Un.ok (c + 1)) = (7, 0, (i : Int)) := fun h => if_pos h
    have u2 : ¬ (kd = 3 ∧ c + 1 = 2) → uenc i kd (Un.ok (c + 1)) = (kd, ((c + 1 : Nat) : Int), 0) := fun h => if_neg h
    by_cases c2 : kd = 3
    · refine ev_pos c2 ?_
      by_cases c3 : ((i + c : Nat) : Int) = ((i + 1 : Nat) : Int)
      · rw [u1 ⟨c2, by omega⟩]
        exact ev_pos c3 (ev_ret rfl)
      · rw [u2 (by rintro ⟨_, h⟩; omega)]
        exact ev_neg c3 (ev_ret rfl)
    · rw [u2 (fun h => c2 h.1)]
      exact ev_neg c2 (ev_ret rfl)
  rw [decide_eq_false c1, if_neg Bool.false_ne_true]
  refine ev_neg c1 ?_
  by_cases c2 : bt s ((i + c : Nat) : Int) = 10
  · refine ev_pos c2 ?_
    by_cases c3 : q = 96
    · rw [if_neg (by unfold qst; rw [if_pos c3]; exact fun h => h.1 rfl)]
      have : (!(q == 96)) = false := by rw [c3]; rfl
      rw [this]
      exact rest
    · rw [if_pos (by unfold qst; rw [if_neg c3, p1, decide_eq_true c2]; exact ⟨by simp, rfl⟩)]
      have qb : (!(q == 96)) = true := by simp [c3]
      rw [qb]
      exact Ev.step (fun _ => seicheref11_quoted.j1.eq_2 ..) (ev_pos rfl (ev_ret rfl))
  · refine ev_neg c2 ?_
    rw [if_neg]
    · exact rest
    · unfold qst
      by_cases c3 : q = 96
      · rw [if_pos c3]; exact fun h => h.1 rfl
      · rw [if_neg c3, p1, decide_eq_false c2]; exact fun h => absurd h.2 Bool.false_ne_true
theorem quoted_ev (i : Nat) (kd : Int) (hi : i < s.size) : Ev (fun k => seicheref11_quoted.f k s (i : Int) kd) (enc i (qt kd (bt s (i : Int)) ((bytesOf s).drop i))) := by
  have main : ∀ n c, s.size - (i + c) ≤ n → i + c ≤ s.size → 1 ≤ c → QI s i kd (bt s (i : Int)) c := by
    intro n
    induction n with
    | zero => exact fun c h1 h2 h3 => quoted_round hs i kd _ c h2 h3 (fun c' g1 g2 => by exfalso; omega)
    | succ m ih => exact fun c h1 h2 h3 => quoted_round hs i kd _ c h2 h3 (fun c' g1 g2 => ih c' (by omega) g2 (by omega))
  have h := main _ 1 (Nat.le_refl _) (by omega) (Nat.le_refl _)
  unfold seicheref11_quoted.f
  have w1 : wrap64 ((i : Int) + 1) = ((i + 1 : Nat) : Int) := by rw [w64 (by omega) (by omega)]; omega
  rw [w1]
  refine ev_pos (by omega) (ev_pos (by omega) ?_)
  rw [enc_qt, List.drop_drop]
  exact h
end
end Go.Proofs.YtfolmcfcmonkhaaDoor.Fr
namespace Go.Proofs.YtfolmcfcmonkhaaDoor.Fr
open Go Go.RowKit Go.Proofs.YtfolmcfcmonkhaaDoor.PAll Go.Proofs.YtfolmcfcmonkhaaDoorW.PrintWords Go.Proofs.YtfolmcfcmonkhaaDoorW.PrintLast Go.Proofs.YtfolmcfcmonkhaaDoorPw Go.Proofs.YtfolmcfcmonkhaaDoor
set_option linter.unusedVariables false
set_option linter.unusedSimpArgs false
theorem ten_sign {l : List Int} (hb : Byt l) (h : 0 ≤ sr l) : (10 : Int) ∈ l.take (sn l) ↔ sr l = 10 := by
  rcases sg_cases hb (sr_ne h) with ⟨g, _⟩ | ⟨r, t, g1, g2, g3, g4, g5⟩
  · omega
  · rw [g5, g4, g3, List.take_left]
    by_cases c : r < 128
    · rw [utf_ascii c]
      simp [eq_comm]
    · constructor
      · intro hh
        have := utf_high g1 (by omega) _ hh
        omega
      · intro e
        omega
theorem ten_take {l : List Int} (c : Nat) (hb : Byt (l.drop c)) (h : 0 ≤ sr (l.drop c)) : decide ((10 : Int) ∈ l.take (c + sn (l.drop c))) = (decide ((10 : Int) ∈ l.take c) || decide (sr (l.drop c) = 10)) := by
  rw [Bool.eq_iff_iff, Bool.or_eq_true, decide_eq_true_eq, decide_eq_true_eq, decide_eq_true_eq, List.take_add, List.mem_append, ten_sign hb h]
/-- What the end of a comment answers. -/
def cenc (s : ByteArray) (i : Nat) : Un → Int × Int × Int
  | .ok j => enc i (.note j (decide ((10 : Int) ∈ ((bytesOf s).drop i).take j)))
  | .frm => enc i (.bad 0)
  | .bad o => enc i (.bad o)
section
variable {s : ByteArray} (hs : s.size ≤ 1048576)
include hs
theorem cline_round (i c : Nat) (fd : Bool) (hi : i + c ≤ s.size) (hp : Pos s (i + c))
    (ih : ∀ c' fd', c < c' → i + c' ≤ s.size → Ev (fun k => seicheref11_comment.l0 k s (i : Int) true fd' ((i + c' : Nat) : Int)) (enc i (lc c' ((bytesOf s).drop (i + c'))))) :
    Ev (fun k => seicheref11_comment.l0 k s (i : Int) true fd ((i + c : Nat) : Int)) (enc i (lc c ((bytesOf s).drop (i + c)))) := by
  have hl := bytesOf_length s
  have w : wrap64 (((i + c : Nat) : Int) - (i : Int)) = (c : Int) := by rw [w64 (by omega) (by omega)]; omega
  refine Ev.step (fun _ => seicheref11_comment.l0.eq_2 ..) ?_
  rw [w, lc]
  by_cases h0 : s.size ≤ i + c
  · rw [drop_nil h0, dif_pos rfl]
    exact ev_neg (by omega) (ev_pos rfl (ev_ret rfl))
  have hb := byt_drop (byt_bytesOf s) (i + c)
  have dc := drop_bt (s := s) (i := i + c) (by omega)
  have ne : (bytesOf s).drop (i + c) ≠ [] := by rw [dc]; simp
  have hd : ((bytesOf s).drop (i + c)).headD 0 = bt s ((i + c : Nat) : Int) := by rw [dc]; rfl
  rw [dif_neg ne, hd]
  refine ev_pos (by omega) (ev_pos rfl (ev_pos (by omega) (Ev.step (fun _ => seicheref11_comment.j1.eq_2 ..) ?_)))
  by_cases c1 : bt s ((i + c : Nat) : Int) = 10
  · rw [if_pos c1, w]
    exact ev_pos (by rw [c1]; rfl) (ev_pos rfl (ev_ret rfl))
  rw [if_neg c1]
  refine ev_neg (by simpa using c1) (ev_pos rfl (Ev.step (fun _ => seicheref11_comment.j2.eq_2 ..) (ev_neg Bool.false_ne_true (ev_call (rrune_at hs hp) ?_))))
  by_cases d1 : sr ((bytesOf s).drop (i + c)) < 0
  · rw [if_pos d1]
    exact ev_pos d1 (ev_ret rfl)
  rw [if_neg d1]
  refine ev_neg d1 ?_
  dsimp only
  have sp := sn_pos hb ne
  have sl : i + (c + sn ((bytesOf s).drop (i + c))) ≤ s.size ∧ sn ((bytesOf s).drop (i + c)) ≠ 0 := by
    rw [List.length_drop] at sp
    omega
  have w3 : wrap64 (((i + c : Nat) : Int) + (sn ((bytesOf s).drop (i + c)) : Int)) = ((i + (c + sn ((bytesOf s).drop (i + c))) : Nat) : Int) := by rw [w64 (by omega) (by omega)]; omega
  have ds : dp ((bytesOf s).drop (i + c)) (sn ((bytesOf s).drop (i + c))) = (bytesOf s).drop (i + (c + sn ((bytesOf s).drop (i + c)))) := by rw [dp_sn hb ne, List.drop_drop, Nat.add_assoc]
  rw [w3, ds]
  by_cases d2 : fd = true
  · exact ev_pos d2 (ih _ _ (by omega) sl.1)
  · exact ev_neg d2 (ih _ _ (by omega) sl.1)
/-- A sign within a comment. -/
theorem cblock_sign (i c : Nat) (hi : i + c < s.size) (hp : Pos s (i + c)) (R : Int × Int × Int)
    (bad : sr ((bytesOf s).drop (i + c)) < 0 → R = enc i (.bad c))
    (go : 0 ≤ sr ((bytesOf s).drop (i + c)) → Ev (fun k => seicheref11_comment.l0 k s (i : Int) false (decide ((10 : Int) ∈ ((bytesOf s).drop i).take (c + sn ((bytesOf s).drop (i + c))))) ((i + (c + sn ((bytesOf s).drop (i + c))) : Nat) : Int)) R) :
    Ev (fun k => seicheref11_comment.j2 k s (i : Int) false (decide ((10 : Int) ∈ ((bytesOf s).drop i).take c)) ((i + c : Nat) : Int) false) R := by
  have hl := bytesOf_length s
  have hb := byt_drop (byt_bytesOf s) (i + c)
  have ne : (bytesOf s).drop (i + c) ≠ [] := by rw [drop_bt hi]; simp
  refine Ev.step (fun _ => seicheref11_comment.j2.eq_2 ..) (ev_neg Bool.false_ne_true (ev_call (rrune_at hs hp) ?_))
  by_cases d1 : sr ((bytesOf s).drop (i + c)) < 0
  · rw [bad d1]
    exact ev_pos d1 (ev_ret rfl)
  refine ev_neg d1 ?_
  dsimp only
  have sp := sn_pos hb ne
  have sl : i + (c + sn ((bytesOf s).drop (i + c))) ≤ s.size ∧ sn ((bytesOf s).drop (i + c)) ≠ 0 := by
    rw [List.length_drop] at sp
    omega
  have w3 : wrap64 (((i + c : Nat) : Int) + (sn ((bytesOf s).drop (i + c)) : Int)) = ((i + (c + sn ((bytesOf s).drop (i + c))) : Nat) : Int) := by rw [w64 (by omega) (by omega)]; omega
  have g := go (by omega)
  have tt := ten_take (l := (bytesOf s).drop i) c (by rw [List.drop_drop]; exact hb) (by rw [List.drop_drop]; omega)
  rw [List.drop_drop] at tt
  rw [tt] at g
  rw [w3]
  by_cases d2 : decide ((10 : Int) ∈ ((bytesOf s).drop i).take c) = true
  · rw [d2, Bool.true_or] at g
    exact ev_pos d2 (by rw [d2] at *; exact g)
  · have d3 := Bool.eq_false_iff.mpr d2
    rw [d3, Bool.false_or] at g
    refine ev_neg d2 ?_
    have : (sr ((bytesOf s).drop (i + c)) == 10) = decide (sr ((bytesOf s).drop (i + c)) = 10) := by
      rw [Bool.eq_iff_iff]; simp
    rw [this]
    exact g
def CB (s : ByteArray) (i c : Nat) : Prop := Ev (fun k => seicheref11_comment.l0 k s (i : Int) false (decide ((10 : Int) ∈ ((bytesOf s).drop i).take c)) ((i + c : Nat) : Int)) (cenc s i (un [42, 47] false [] c ((bytesOf s).drop (i + c))))
theorem cblock_round (i c : Nat) (hc : 2 ≤ c) (hi : i + c ≤ s.size) (ih : ∀ c', c < c' → i + c' ≤ s.size → CB s i c') : CB s i c := by
  have hl := bytesOf_length s
  unfold CB
  refine Ev.step (fun _ => seicheref11_comment.l0.eq_2 ..) ?_
  rw [un_eq]
  by_cases h0 : s.size ≤ i + c
  · rw [drop_nil h0, if_pos rfl]
    exact ev_neg (by omega) (ev_neg Bool.false_ne_true (ev_ret (by simp [cenc, enc])))
  have hb := byt_drop (byt_bytesOf s) (i + c)
  have ne : (bytesOf s).drop (i + c) ≠ [] := by rw [drop_bt (by omega)]; simp
  rw [if_neg ne]
  have w : wrap64 ((i : Int) + 2) = ((i + 2 : Nat) : Int) := by rw [w64 (by omega) (by omega)]; omega
  refine ev_pos (by omega) (ev_neg Bool.false_ne_true (Ev.step (fun _ => seicheref11_comment.j1.eq_2 ..) (ev_neg Bool.false_ne_true (ev_neg Bool.false_ne_true ?_))))
  rw [w]
  refine ev_pos (by omega) (ev_call (ev_eq (begins_f hs (i + c) hi _ (by decide))) ?_)
  rw [show bytesOf (⟨#[42, 47]⟩ : ByteArray) = [42, 47] from rfl]
  cases c1 : ([42, 47] : List Int).isPrefixOf ((bytesOf s).drop (i + c)) with
  | true =>
    rw [if_pos rfl]
    obtain ⟨t, ht⟩ := pre2 c1
    have lt := congrArg List.length ht
    rw [List.length_drop, hl, List.length_cons, List.length_cons] at lt
    have w2 : wrap64 (wrap64 (((i + c : Nat) : Int) + 2) - (i : Int)) = ((c + 2 : Nat) : Int) := by rw [w64 (x := ((i + c : Nat) : Int) + 2) (by omega) (by omega), w64 (by omega) (by omega)]; omega
    have fl : decide ((10 : Int) ∈ ((bytesOf s).drop i).take (c + 2)) = decide ((10 : Int) ∈ ((bytesOf s).drop i).take c) := by
      rw [decide_eq_decide, List.take_add, List.drop_drop, ht, List.mem_append]
      simp
    refine Ev.step (fun _ => seicheref11_comment.j2.eq_2 ..) (ev_pos rfl ?_)
    rw [w2]
    show Ev _ (enc i (.note (c + 2) (decide ((10 : Int) ∈ ((bytesOf s).drop i).take (c + 2)))))
    rw [fl]
    by_cases d : decide ((10 : Int) ∈ ((bytesOf s).drop i).take c) = true
    · exact ev_pos d (ev_ret (by rw [d]; rfl))
    · exact ev_neg d (ev_ret (by rw [Bool.eq_false_iff.mpr d]; rfl))
  | false =>
    rw [if_neg Bool.false_ne_true, if_neg (fun h => h.1 rfl), unB]
    refine cblock_sign hs i c (by omega) (.inl (by omega)) _ (fun d => by rw [if_pos d]; rfl) (fun d => ?_)
    rw [if_neg (by omega), if_neg (fun h => absurd h.1 Bool.false_ne_true), dp_sn hb ne, List.drop_drop, Nat.add_assoc]
    have sp := sn_pos hb ne
    rw [List.length_drop] at sp
    exact ih _ (by omega) (by omega)
/-- A sign at the first place, or at the second. -/
theorem cblock_first (i c : Nat) (hc : c < 2) (hi : i + c < s.size) (hp : Pos s (i + c)) (R : Int × Int × Int) (p0 : 0 ≤ sr ((bytesOf s).drop (i + c))) (s1 : sn ((bytesOf s).drop (i + c)) = 1)
    (nx : Ev (fun k => seicheref11_comment.l0 k s (i : Int) false (decide ((10 : Int) ∈ ((bytesOf s).drop i).take (c + 1))) ((i + (c + 1) : Nat) : Int)) R) :
    Ev (fun k => seicheref11_comment.l0 k s (i : Int) false (decide ((10 : Int) ∈ ((bytesOf s).drop i).take c)) ((i + c : Nat) : Int)) R := by
  have w2 : wrap64 ((i : Int) + 2) = ((i + 2 : Nat) : Int) := by rw [w64 (by omega) (by omega)]; omega
  have q1 : ((i + c : Nat) : Int) < (s.size : Int) := by omega
  have q2 : ¬ ((i + c : Nat) : Int) ≥ ((i + 2 : Nat) : Int) := by omega
  have q3 : ¬ sr ((bytesOf s).drop (i + c)) < 0 := Int.not_lt.2 p0
  have st := cblock_sign hs i c hi hp R (fun h => absurd h q3) (fun _ => by rw [s1]; exact nx)
  refine Ev.step (fun _ => seicheref11_comment.l0.eq_2 ..) (ev_pos q1 (ev_neg Bool.false_ne_true (Ev.step (fun _ => seicheref11_comment.j1.eq_2 ..) (ev_neg Bool.false_ne_true (ev_neg Bool.false_ne_true ?_)))))
  rw [w2]
  exact ev_neg q2 st
theorem comment_ev (i : Nat) (hp : Pos s i) (h2 : i + 2 ≤ s.size) (hh : ([47, 47] : List Int).isPrefixOf ((bytesOf s).drop i) = true ∨ (([47, 47] : List Int).isPrefixOf ((bytesOf s).drop i) = false ∧ ([47, 42] : List Int).isPrefixOf ((bytesOf s).drop i) = true)) :
    Ev (fun k => seicheref11_comment.f k s (i : Int)) (enc i (if ([47, 47] : List Int).isPrefixOf ((bytesOf s).drop i) = true then lc 0 ((bytesOf s).drop i) else bc ((bytesOf s).drop i))) := by
  have hl := bytesOf_length s
  unfold seicheref11_comment.f
  have w : wrap64 ((i : Int) + 1) = ((i + 1 : Nat) : Int) := by rw [w64 (by omega) (by omega)]; omega
  rw [w]
  refine ev_pos (by omega) (ev_pos (by omega) ?_)
  have d0 : (bytesOf s).drop i = bt s (i : Int) :: bt s ((i + 1 : Nat) : Int) :: (bytesOf s).drop (i + 1 + 1) := by rw [drop_bt (by omega), drop_bt (by omega)]
  by_cases c1 : ([47, 47] : List Int).isPrefixOf ((bytesOf s).drop i) = true
  · rw [if_pos c1]
    have b1 : bt s ((i + 1 : Nat) : Int) = 47 := by
      rw [d0] at c1
      simp only [List.isPrefixOf, Bool.and_eq_true, beq_iff_eq, and_true] at c1
      exact c1.2.symm
    rw [b1]
    have main : ∀ n c fd, s.size - (i + c) ≤ n → i + c ≤ s.size → Pos s (i + c) → Ev (fun k => seicheref11_comment.l0 k s (i : Int) true fd ((i + c : Nat) : Int)) (enc i (lc c ((bytesOf s).drop (i + c)))) := by
      intro n
      induction n with
      | zero => exact fun c fd h1 h2 h3 => cline_round hs i c fd h2 h3 (fun c' _ g1 g2 => by exfalso; omega)
      | succ m ih => exact fun c fd h1 h2 h3 => cline_round hs i c fd h2 h3 (fun c' _ g1 g2 => ih c' _ (by omega) g2 (.inl (by omega)))
    have z0 := main _ 0 false (Nat.le_refl _) (by omega) hp
    rw [Nat.add_zero] at z0
    rw [show ((47 : Int) == 47) = true from rfl]
    exact z0
  · rw [if_neg c1]
    have c2 : ([47, 42] : List Int).isPrefixOf ((bytesOf s).drop i) = true := by
      rcases hh with h | h
      · exact absurd h c1
      · exact h.2
    have b0 : bt s (i : Int) = 47 ∧ bt s ((i + 1 : Nat) : Int) = 42 := by
      rw [d0] at c2
      simp only [List.isPrefixOf, Bool.and_eq_true, beq_iff_eq, and_true] at c2
      exact ⟨c2.1.symm, c2.2.symm⟩
    rw [b0.2]
    have main : ∀ n c, s.size - (i + c) ≤ n → 2 ≤ c → i + c ≤ s.size → CB s i c := by
      intro n
      induction n with
      | zero => exact fun c h1 h2 h3 => cblock_round hs i c h2 h3 (fun c' g1 g2 => by exfalso; omega)
      | succ m ih => exact fun c h1 h2 h3 => cblock_round hs i c h2 h3 (fun c' g1 g2 => ih c' (by omega) (by omega) g2)
    have h2' := main _ (1 + 1) (Nat.le_refl _) (Nat.le_refl _) h2
    unfold CB at h2'
    have eb : enc i (bc ((bytesOf s).drop i)) = cenc s i (un [42, 47] false [] (1 + 1) ((bytesOf s).drop (i + (1 + 1)))) := by
      rw [bc, List.drop_drop]
      cases un [42, 47] false [] 2 ((bytesOf s).drop (i + 2)) <;> rfl
    rw [eb]
    clear eb main
    have hd0 : sr ((bytesOf s).drop i) = 47 ∧ sn ((bytesOf s).drop i) = 1 := by rw [d0, b0.1]; exact sg_ascii (by decide) _
    have hd1 : sr ((bytesOf s).drop (i + 1)) = 42 ∧ sn ((bytesOf s).drop (i + 1)) = 1 := by rw [drop_bt (by omega : i + 1 < s.size), b0.2]; exact sg_ascii (by decide) _
    have w2 : wrap64 ((i : Int) + 2) = ((i + 2 : Nat) : Int) := by rw [w64 (by omega) (by omega)]; omega
    have x1 : i + 1 < s.size := h2
    have x2 : i + 0 < s.size := Nat.lt_of_succ_lt h2
    have z1 := cblock_first hs i 1 (by decide) x1 (.inl (Nat.succ_pos i)) _ (by rw [hd1.1]; decide) hd1.2 h2'
    have z0 := cblock_first hs i 0 (by decide) x2 hp _ (by rw [Nat.add_zero, hd0.1]; decide) (by rw [Nat.add_zero]; exact hd0.2) z1
    have e0 : decide ((10 : Int) ∈ ((bytesOf s).drop i).take 0) = false := by simp
    rw [e0, Nat.add_zero] at z0
    rw [show ((42 : Int) == 47) = false from rfl]
    exact z0
end
end Go.Proofs.YtfolmcfcmonkhaaDoor.Fr
namespace Go.Proofs.YtfolmcfcmonkhaaDoor.Fr
open Go Go.RowKit Go.Proofs.YtfolmcfcmonkhaaDoor.PAll Go.Proofs.YtfolmcfcmonkhaaDoorW.PrintWords Go.Proofs.YtfolmcfcmonkhaaDoorW.PrintLast Go.Proofs.YtfolmcfcmonkhaaDoorPw Go.Proofs.YtfolmcfcmonkhaaDoor
set_option linter.unusedVariables false
set_option linter.unusedSimpArgs false
/-- The longest of the texts that stand at the beginning, from some length on. -/
def mxL (l : List Int) : List (List Int) → Nat → Nat
  | [], b => b
  | z :: L, b => mxL l L (if z.isPrefixOf l = true ∧ b < z.length then z.length else b)
theorem mxL_spec (l : List Int) : ∀ (L : List (List Int)) (b : Nat), b ≤ mxL l L b ∧ (∀ z ∈ L, z.isPrefixOf l = true → z.length ≤ mxL l L b) ∧ (mxL l L b = b ∨ ∃ z ∈ L, z.isPrefixOf l = true ∧ z.length = mxL l L b)
  | [], b => ⟨Nat.le_refl _, (fun _ h => by cases h), .inl rfl⟩
  | z :: L, b => by
    rw [mxL]
    obtain ⟨h1, h2, h3⟩ := mxL_spec l L (if z.isPrefixOf l = true ∧ b < z.length then z.length else b)
    by_cases c : z.isPrefixOf l = true ∧ b < z.length
    · rw [if_pos c] at h1 h2 h3 ⊢
      refine ⟨by omega, fun y hy hp => ?_, ?_⟩
      · rcases List.mem_cons.1 hy with rfl | hy
        · exact h1
        · exact h2 y hy hp
      · rcases h3 with h | ⟨y, hy, hp, he⟩
        · exact .inr ⟨z, by simp, c.1, h.symm⟩
        · exact .inr ⟨y, by simp [hy], hp, he⟩
    · rw [if_neg c] at h1 h2 h3 ⊢
      refine ⟨h1, fun y hy hp => ?_, ?_⟩
      · rcases List.mem_cons.1 hy with rfl | hy
        · have : ¬ b < y.length := fun h => c ⟨hp, h⟩
          omega
        · exact h2 y hy hp
      · rcases h3 with h | ⟨y, hy, hp, he⟩
        · exact .inl h
        · exact .inr ⟨y, by simp [hy], hp, he⟩
theorem opL_mem (l : List Int) : ∀ L : List (List Int), opL L l = 0 ∨ ∃ z ∈ L, z.isPrefixOf l = true ∧ z.length = opL L l
  | [] => .inl rfl
  | w :: L => by
    rw [opL_cons]
    by_cases c : w.isPrefixOf l = true
    · rw [if_pos c]
      exact .inr ⟨w, by simp, c, rfl⟩
    · rw [if_neg c]
      rcases opL_mem l L with h | ⟨z, hz, hp, he⟩
      · exact .inl h
      · exact .inr ⟨z, by simp [hz], hp, he⟩
def renc (i m : Nat) : Int × Int × Int := if 0 < m then (5, (m : Int), 0) else (7, 0, (i : Int))
def rsigns : List ByteArray := (seicheref11_Signs.f).getD []
theorem rsigns_eq : seicheref11_Signs.f = some rsigns := rfl
theorem rsigns_in : (∀ z ∈ rsigns.map bytesOf, z ∈ signsI) ∧ (∀ z ∈ signsI, z ∈ rsigns.map bytesOf) := by decide
theorem mx_op (l : List Int) : mxL l (rsigns.map bytesOf) 0 = op l := by
  rw [op_eq]
  obtain ⟨h1, h2, h3⟩ := mxL_spec l (rsigns.map bytesOf) 0
  apply Nat.le_antisymm
  · rcases h3 with h | ⟨z, hz, hp, he⟩
    · rw [h]; exact Nat.zero_le _
    · rw [← he]
      exact opL_max signs_sorted (rsigns_in.1 z hz) hp
  · rcases opL_mem l signsI with h | ⟨z, hz, hp, he⟩
    · rw [h]; exact Nat.zero_le _
    · rw [← he]
      exact h2 z (rsigns_in.2 z hz) hp
section
variable {s : ByteArray} (hs : s.size ≤ 1048576)
include hs
theorem rsigns_l0 (i : Nat) (hi : i ≤ s.size) (x6 : Int) (L : List ByteArray) (ls : L.length < 1000) : ∀ (suf pre : List ByteArray) (b : Nat), L = pre ++ suf → (∀ x ∈ suf, x.size ≤ 10) →
    Ev (fun k => seicheref11_Next.l0 k s (i : Int) x6 (b : Int) L (L.length : Int) (pre.length : Int)) (renc i (mxL ((bytesOf s).drop i) (suf.map bytesOf) b))
  | [], pre, b, e, hz => by
    refine Ev.step (fun _ => seicheref11_Next.l0.eq_2 ..) ?_
    rw [List.append_nil] at e
    rw [e]
    show Ev _ (renc i b)
    unfold renc
    refine ev_neg (by omega) ?_
    have w : wrap64 ((i : Int) + wrap64 (0 * x6)) = (i : Int) := by
      rw [Int.zero_mul, w64 (x := 0) (by decide) (by decide), Int.add_zero, w64 (by omega) (by omega)]
    rw [w]
    by_cases c : 0 < b
    · rw [if_pos c]
      exact ev_pos (by omega) (ev_ret rfl)
    · rw [if_neg c]
      exact ev_neg (by omega) (ev_ret rfl)
  | x :: suf, pre, b, e, hz => by
    have ln := congrArg List.length e
    rw [List.length_append, List.length_cons] at ln
    have hx := hz x (by simp)
    have lx := bytesOf_length x
    have rx : rdOf ByteArray.empty L (pre.length : Int) = x := by
      unfold rdOf
      rw [Int.toNat_natCast, e, List.getD_eq_getElem?_getD, List.getElem?_append_right (Nat.le_refl _), Nat.sub_self]
      rfl
    have w : wrap64 ((pre.length : Int) + 1) = (((pre ++ [x]).length : Nat) : Int) := by rw [w64 (by omega) (by omega)]; simp
    have ih := fun b' => rsigns_l0 i hi x6 L ls suf (pre ++ [x]) b' (by rw [e, List.append_assoc]; rfl) (fun y hy => hz y (by simp [hy]))
    have q1 : (pre.length : Int) < (L.length : Int) := by omega
    have bf := begins_f hs i hi x (by omega)
    clear hz e ln
    refine Ev.step (fun _ => seicheref11_Next.l0.eq_2 ..) (ev_pos q1 (ev_pos (Int.natCast_nonneg _) (ev_pos q1 ?_)))
    rw [rx, w, List.map_cons, mxL, lx]
    refine ev_call (ev_eq bf) ?_
    by_cases c : (bytesOf x).isPrefixOf ((bytesOf s).drop i) = true
    · refine ev_pos c ?_
      by_cases c2 : b < x.size
      · rw [if_pos ⟨c, c2⟩]
        exact ev_pos (by omega) (ih x.size)
      · rw [if_neg (fun h => c2 h.2)]
        exact ev_neg (by omega) (ih b)
    · rw [if_neg (fun h => c h.1)]
      exact ev_neg c (ih b)
theorem rnext_ev (i : Nat) (hp : Pos s i) (hi : i < s.size) : Ev (fun k => seicheref11_Next.f k s (i : Int)) (enc i (next ((bytesOf s).drop i))) := by
  have hl := bytesOf_length s
  have hb := byt_drop (byt_bytesOf s) i
  have dc := drop_bt hi
  have low : ∀ r : Int, 0 < r ∧ r < 128 → sr ((bytesOf s).drop i) = r → bt s (i : Int) = r := fun r hr e => head_bt hi e hr
  unfold seicheref11_Next.f
  refine ev_call (rrune_at hs hp) ?_
  rw [next]
  by_cases c1 : sr ((bytesOf s).drop i) < 0
  · rw [if_pos c1]
    exact ev_pos c1 (ev_ret rfl)
  rw [if_neg c1]
  refine ev_neg c1 ?_
  by_cases c2 : sr ((bytesOf s).drop i) = 10
  · rw [if_pos c2]
    exact ev_pos c2 (ev_ret rfl)
  rw [if_neg c2]
  refine ev_neg c2 (ev_call (ev_eq (rblank_f _)) ?_)
  by_cases c3 : sr ((bytesOf s).drop i) = 32 ∨ sr ((bytesOf s).drop i) = 9 ∨ sr ((bytesOf s).drop i) = 13
  · rw [if_pos c3]
    exact ev_pos (decide_eq_true c3) (ev_ret rfl)
  rw [if_neg c3]
  have p2 : ∀ x y : Int, ([x, y] : List Int).isPrefixOf ((bytesOf s).drop i) = true → i + 2 ≤ s.size := by
    intro x y h
    rw [pre_iff, decide_eq_true_eq, List.length_drop, hl] at h
    have h1 : 2 ≤ s.size - i := h.1
    omega
  have b1 := begins_f hs i (Nat.le_of_lt hi) (⟨#[47, 47]⟩ : ByteArray) (by decide)
  have b2 := begins_f hs i (Nat.le_of_lt hi) (⟨#[47, 42]⟩ : ByteArray) (by decide)
  refine ev_neg (by simp only [decide_eq_true_eq]; exact c3) (ev_call (ev_eq b1) ?_)
  by_cases c4 : ([47, 47] : List Int).isPrefixOf ((bytesOf s).drop i) = true
  · rw [if_pos c4]
    refine ev_pos c4 (Ev.step (fun _ => seicheref11_Next.j0.eq_2 ..) (ev_pos rfl ?_))
    have := comment_ev hs i hp (p2 _ _ c4) (.inl c4)
    rw [if_pos c4] at this
    exact ev_call this (ev_ret rfl)
  rw [if_neg c4]
  refine ev_neg c4 (ev_call (ev_eq b2) ?_)
  by_cases c5 : ([47, 42] : List Int).isPrefixOf ((bytesOf s).drop i) = true
  · rw [if_pos c5]
    refine Ev.step (fun _ => seicheref11_Next.j0.eq_2 ..) (ev_pos c5 ?_)
    have := comment_ev hs i hp (p2 _ _ c5) (.inr ⟨Bool.eq_false_iff.mpr c4, c5⟩)
    rw [if_neg c4] at this
    exact ev_call this (ev_ret rfl)
  rw [if_neg c5]
  refine Ev.step (fun _ => seicheref11_Next.j0.eq_2 ..) (ev_neg c5 (ev_call (ev_eq (rletter_f _)) ?_))
  by_cases c6 : isL (sr ((bytesOf s).drop i)) = true
  · rw [if_pos c6]
    exact ev_pos c6 (ev_call (name_ev hs i (Nat.le_of_lt hi) hp) (ev_ret rfl))
  rw [if_neg c6]
  refine ev_neg c6 (ev_call (ev_eq (rdigit_f _)) ?_)
  have num : ∀ b : Bool, b = true → Ev (fun k => seicheref11_Next.j1 k s (i : Int) (sr ((bytesOf s).drop i)) (sn ((bytesOf s).drop i) : Int) b) (enc i (.tok 2 (nl (isHex ((bytesOf s).drop i)) 0 ((bytesOf s).drop i)))) := by
    rintro b rfl
    exact Ev.step (fun _ => seicheref11_Next.j1.eq_2 ..) (ev_pos rfl (ev_call (rnumber_ev hs i (Nat.le_of_lt hi)) (ev_ret rfl)))
  have last : ∀ b : Bool, b = false → Ev (fun k => seicheref11_Next.j1 k s (i : Int) (sr ((bytesOf s).drop i)) (sn ((bytesOf s).drop i) : Int) b) (enc i (if sr ((bytesOf s).drop i) = 39 then qt 3 39 ((bytesOf s).drop i) else
      if sr ((bytesOf s).drop i) = 34 then qt 4 34 ((bytesOf s).drop i) else
      if sr ((bytesOf s).drop i) = 96 then qt 4 96 ((bytesOf s).drop i) else
      if sr ((bytesOf s).drop i) = 59 then .tok 6 1 else
      if op ((bytesOf s).drop i) = 0 then .bad 0 else .tok 5 (op ((bytesOf s).drop i)))) := by
    rintro b rfl
    refine Ev.step (fun _ => seicheref11_Next.j1.eq_2 ..) (ev_neg Bool.false_ne_true ?_)
    by_cases d1 : sr ((bytesOf s).drop i) = 39
    · rw [if_pos d1]
      have := quoted_ev hs i 3 hi
      rw [low 39 (by decide) d1] at this
      exact ev_pos d1 (ev_call this (ev_ret rfl))
    rw [if_neg d1]
    refine ev_neg d1 ?_
    have txt : ∀ (b : Bool) (q : Int), b = true → bt s (i : Int) = q → Ev (fun k => seicheref11_Next.j2 k s (i : Int) (sr ((bytesOf s).drop i)) (sn ((bytesOf s).drop i) : Int) b) (enc i (qt 4 q ((bytesOf s).drop i))) := by
      rintro b q rfl rfl
      exact Ev.step (fun _ => seicheref11_Next.j2.eq_2 ..) (ev_pos rfl (ev_call (quoted_ev hs i 4 hi) (ev_ret rfl)))
    by_cases d2 : sr ((bytesOf s).drop i) = 34
    · rw [if_pos d2]
      exact ev_pos d2 (txt _ _ rfl (low 34 (by decide) d2))
    rw [if_neg d2]
    refine ev_neg d2 ?_
    by_cases d3 : sr ((bytesOf s).drop i) = 96
    · rw [if_pos d3]
      exact txt _ _ (by rw [d3]; rfl) (low 96 (by decide) d3)
    rw [if_neg d3]
    refine Ev.step (fun _ => seicheref11_Next.j2.eq_2 ..) (ev_neg (by simpa using d3) ?_)
    by_cases d4 : sr ((bytesOf s).drop i) = 59
    · rw [if_pos d4]
      exact ev_pos d4 (ev_ret rfl)
    rw [if_neg d4]
    refine ev_neg d4 (ev_call (ev_eq rsigns_eq) ?_)
    have := rsigns_l0 hs i (Nat.le_of_lt hi) (sn ((bytesOf s).drop i) : Int) rsigns (by decide) rsigns [] 0 rfl (by decide)
    rw [mx_op] at this
    have e : renc i (op ((bytesOf s).drop i)) = enc i (if op ((bytesOf s).drop i) = 0 then .bad 0 else .tok 5 (op ((bytesOf s).drop i))) := by
      unfold renc
      by_cases c : op ((bytesOf s).drop i) = 0
      · rw [if_pos c, if_neg (by rw [c]; decide)]; rfl
      · rw [if_neg c, if_pos (Nat.pos_of_ne_zero c)]; rfl
    rw [e] at this
    exact this
  by_cases c7 : isD (sr ((bytesOf s).drop i)) = true
  · rw [if_pos (.inl c7)]
    exact ev_pos c7 (num _ rfl)
  refine ev_neg c7 ?_
  by_cases c8 : sr ((bytesOf s).drop i) = 46
  · refine ev_pos c8 ?_
    have w : wrap64 ((i : Int) + 1) = ((i + 1 : Nat) : Int) := by clear last num; rw [w64 (by omega) (by omega)]; omega
    have w' : wrap64 ((s.size : Int) - 1) = (s.size : Int) - 1 := by clear last num; exact w64 (by omega) (by omega)
    rw [w, w']
    by_cases c9 : i + 1 < s.size
    · have w2 : wrap64 (bt s ((i + 1 : Nat) : Int)) = ((bytesOf s).drop i).getD 1 0 := by
        have := bt_range s ((i + 1 : Nat) : Int)
        rw [dc, drop_bt c9]
        show wrap64 _ = bt s ((i + 1 : Nat) : Int)
        clear last num
        exact w64 (by omega) (by omega)
      have q1 : (i : Int) < (s.size : Int) - 1 := by clear last num; omega
      have q2 : ((i + 1 : Nat) : Int) < (s.size : Int) := Int.ofNat_lt.2 c9
      refine ev_pos q1 (ev_pos (Int.natCast_nonneg _) (ev_pos q2 (ev_call (ev_eq (rdigit_f _)) ?_)))
      rw [w2]
      have l1 : 1 < ((bytesOf s).drop i).length := by clear last num; rw [List.length_drop, hl]; omega
      by_cases c10 : isD (((bytesOf s).drop i).getD 1 0) = true
      · rw [if_pos (.inr ⟨c8, l1, c10⟩)]
        exact num _ c10
      · rw [if_neg (by rintro (h | h); exact c7 h; exact c10 h.2.2)]
        exact last _ (Bool.eq_false_iff.mpr c10)
    · have l1 : ¬ 1 < ((bytesOf s).drop i).length := by clear last num; rw [List.length_drop, hl]; omega
      have q1 : ¬ (i : Int) < (s.size : Int) - 1 := by clear last num; omega
      rw [if_neg (by rintro (h | h); exact c7 h; exact l1 h.2.1)]
      exact ev_neg q1 (last _ rfl)
  · rw [if_neg (by rintro (h | h); exact c7 h; exact c8 h.1)]
    exact ev_neg c8 (last _ rfl)
end
theorem rfeed_ev {T : List S27} (h : Sm T) (a : Int) : Ev (fun k => seicheref11_feed.f k T a) (feedT T a) := by
  have hlt : T.length < 3000000 := h
  have h4 := h.lt
  unfold seicheref11_feed.f feedT endsP
  by_cases c : T.length = 0
  · rw [if_pos c, if_neg Bool.false_ne_true]
    exact ev_neg (by clear h4; omega) (ev_ret rfl)
  · rw [if_neg c]
    have w : wrap64 ((T.length : Int) - 1) = (T.length : Int) - 1 := by clear h4; exact w64 (by omega) (by omega)
    have q1 : (T.length : Int) > 0 := by clear h4; omega
    have q2 : 0 ≤ (T.length : Int) - 1 := by clear h4; omega
    have q3 : (T.length : Int) - 1 < (T.length : Int) := by clear h4; omega
    rw [w]
    refine ev_pos q1 (ev_pos q2 (ev_pos q3 (ev_call (feeds_ev _) ?_)))
    by_cases d : endsT (rd_T27 T ((T.length : Int) - 1)) = true
    · rw [if_pos d, if_pos d]
      exact ev_pos h4 (ev_ret rfl)
    · rw [if_neg d, if_neg d]
      exact ev_ret rfl
theorem tok_kind {l : List Int} {k : Int} {n : Nat} (hb : Byt l) (h : next l = .tok k n) : 1 ≤ k ∧ k ≤ 6 := by
  have ti := (tok_inv hb h).2.2.2.2.2
  rcases ti with ⟨g, _⟩ | ⟨_, g, _⟩ | ⟨_, _, ⟨_, g⟩ | ⟨_, g⟩ | ⟨_, g⟩ | ⟨_, g, _⟩ | ⟨_, _, _, _, g, _⟩⟩
  · omega
  · omega
  · have := (qt_inv hb g).1; omega
  · have := (qt_inv hb g).1; omega
  · have := (qt_inv hb g).1; omega
  · omega
  · omega
/-- What the reference's Lex goes on to, from a place. -/
theorem rlex_round {s : ByteArray} (hs : s.size ≤ 1048576) : ∀ (n i : Nat) (T N : List S27) (prev : Bool), s.size - i ≤ n → i ≤ s.size → Pos s i → T.length ≤ i → N.length ≤ i → endsP T = prev →
    Ev (fun k => seicheref11_Lex.l0 k s T N (i : Int)) (T ++ (lx ((bytesOf s).drop i) i prev).1, N ++ (lx ((bytesOf s).drop i) i prev).2)
  | n, i, T, N, prev, hn, hi, hp, hT, hN, he => by
    have hl := bytesOf_length s
    have sT : Sm T := by unfold Sm; omega
    have sN : Sm N := by unfold Sm; omega
    have hb := byt_drop (byt_bytesOf s) i
    have fs := feedT_semi T i prev he
    have fl := feedT_len T (i : Int)
    have fe := rfeed_ev sT (i : Int)
    by_cases h0 : s.size ≤ i
    · rw [drop_nil h0, lx_nil]
      have q0 : ¬ (i : Int) < (s.size : Int) := by omega
      have sF : Sm (feedT T (i : Int)) := by unfold Sm; omega
      refine Ev.step (fun _ => seicheref11_Lex.l0.eq_2 ..) (ev_neg q0 (ev_call fe (ev_pos sF.lt (ev_ret ?_))))
      rw [fs.1, List.append_nil, List.append_assoc]
    · have hi' : i < s.size := Nat.lt_of_not_le h0
      have dn : (bytesOf s).drop i ≠ [] := by rw [drop_bt hi']; simp
      have st := rnext_ev hs i hp hi'
      have hn' : n ≠ 0 := by omega
      obtain ⟨m, rfl⟩ := Nat.exists_eq_succ_of_ne_zero hn'
      have l1 : ((bytesOf s).drop i).length = s.size - i := by rw [List.length_drop, hl]
      have q0 : (i : Int) < (s.size : Int) := by omega
      have w1 : ∀ z : Nat, i + z ≤ s.size → wrap64 ((i : Int) + (z : Int)) = ((i + z : Nat) : Int) := fun z hz => by rw [w64 (by omega) (by omega)]; omega
      refine Ev.step (fun _ => seicheref11_Lex.l0.eq_2 ..) (ev_pos q0 (ev_call st ?_))
      cases e : next ((bytesOf s).drop i) with
      | bad o =>
        rw [lx_bad dn _ _ e]
        refine ev_pos rfl (ev_pos sT.lt (ev_ret ?_))
        rw [List.append_nil]
        rfl
      | blank =>
        have ih := rlex_round hs m (i + 1) T N prev (by omega) (by omega) (.inl (Nat.succ_pos i)) (by omega) (by omega) he
        rw [lx_blank dn _ _ e, List.drop_drop]
        refine ev_neg (show ¬ (-1 : Int) = 7 by decide) (ev_pos rfl ?_)
        have w := w1 1 hi'
        rw [show (enc i Th.blank).2.1 = ((1 : Nat) : Int) from rfl, w]
        exact ih
      | feed =>
        have ih := rlex_round hs m (i + 1) (feedT T (i : Int)) N false (by omega) (by omega) (.inl (Nat.succ_pos i)) (by omega) (by omega) fs.2
        rw [lx_feed dn _ _ e, List.drop_drop]
        refine ev_neg (show ¬ (-2 : Int) = 7 by decide) (ev_neg (show ¬ (-2 : Int) = -1 by decide) (ev_pos rfl (ev_call fe ?_)))
        have w := w1 1 hi'
        rw [show (enc i Th.feed).2.1 = ((1 : Nat) : Int) from rfl, w]
        rw [fs.1, List.append_assoc] at ih
        rw [fs.1]
        exact ih
      | note k f =>
        have sz := note_size hb e
        rw [l1] at sz
        have hk : i + k ≤ s.size := by omega
        have pe := part_eq (s := s) i k
        have ih := rlex_round hs m (i + k) (if f = true then feedT T (i : Int) else T) (N ++ [⟨0, s.extract i (i + k), (i : Int)⟩]) (prev && !f) (by omega) hk (.inl (by omega)) (by split <;> omega) (by rw [List.length_append, List.length_singleton]; omega) (by
          cases f with
          | true => simpa using fs.2
          | false => simpa using he)
        rw [lx_note dn _ _ (by omega) e, List.drop_drop]
        dsimp only
        have e1 : (if f = true then feedT T (i : Int) else T) = T ++ semi (prev && f) i := by
          cases f with
          | true => rw [if_pos rfl, fs.1, Bool.and_true]
          | false => rw [if_neg Bool.false_ne_true, Bool.and_false]; simp [semi]
        have w := w1 k hk
        have q1 : (i : Int) ≤ ((i + k : Nat) : Int) := Int.ofNat_le.2 (Nat.le_add_right _ _)
        have q2 : ((i + k : Nat) : Int) ≤ (s.size : Int) := Int.ofNat_le.2 hk
        have j1 : ∀ (x : Int), (x = -3 ∧ f = false) ∨ (x = -4 ∧ f = true) → Ev (fun q => seicheref11_Lex.j1 q s T N (i : Int) true x (k : Int) 0) (T ++ (semi (prev && f) i ++ (lx ((bytesOf s).drop (i + k)) (i + k) (prev && !f)).1), N ++ (⟨0, strOfNums (((bytesOf s).drop i).take k), (i : Int)⟩ :: (lx ((bytesOf s).drop (i + k)) (i + k) (prev && !f)).2)) := by
          intro x hx
          refine Ev.step (fun _ => seicheref11_Lex.j1.eq_2 ..) (ev_pos rfl (ev_pos (Int.natCast_nonneg _) ?_))
          rw [w, Int.toNat_natCast, Int.toNat_natCast]
          rw [e1, List.append_assoc, List.append_assoc, pe] at ih
          refine ev_pos q1 (ev_pos q2 (ev_pos sN.lt ?_))
          rw [pe]
          show Ev (fun q => if x = -4 then _ else _) _
          rcases hx with ⟨rfl, rfl⟩ | ⟨rfl, rfl⟩
          · refine ev_neg (by decide) ?_
            have : T ++ semi (prev && false) i = T := by rw [Bool.and_false]; simp [semi]
            rw [this] at ih
            exact ih
          · refine ev_pos rfl (ev_call fe ?_)
            rw [fs.1]
            rw [Bool.and_true] at ih ⊢
            exact ih
        cases f with
        | true =>
          refine ev_neg (show ¬ (-4 : Int) = 7 by decide) (ev_neg (show ¬ (-4 : Int) = -1 by decide) (ev_neg (show ¬ (-4 : Int) = -2 by decide) (ev_neg (show ¬ (-4 : Int) = -3 by decide) ?_)))
          exact j1 (-4) (.inr ⟨rfl, rfl⟩)
        | false =>
          refine ev_neg (show ¬ (-3 : Int) = 7 by decide) (ev_neg (show ¬ (-3 : Int) = -1 by decide) (ev_neg (show ¬ (-3 : Int) = -2 by decide) (ev_pos rfl ?_)))
          exact j1 (-3) (.inl ⟨rfl, rfl⟩)
      | tok kd z =>
        have sz := tok_size hb e
        have tk := tok_kind hb e
        rw [l1] at sz
        have hk : i + z ≤ s.size := by omega
        have pe := part_eq (s := s) i z
        have ih := rlex_round hs m (i + z) (T ++ [⟨kd, s.extract i (i + z), (i : Int)⟩]) N (endsT ⟨kd, strOfNums (((bytesOf s).drop i).take z), (i : Int)⟩) (by omega) hk (.inl (by omega)) (by rw [List.length_append, List.length_singleton]; omega) (by omega) (by rw [endsP_app, pe])
        rw [lx_tok dn _ _ (by omega) e, List.drop_drop]
        dsimp only
        have w := w1 z hk
        have q1 : (i : Int) ≤ ((i + z : Nat) : Int) := Int.ofNat_le.2 (Nat.le_add_right _ _)
        have q2 : ((i + z : Nat) : Int) ≤ (s.size : Int) := Int.ofNat_le.2 hk
        have n1 : ¬ kd = 7 := by omega
        have n2 : ¬ kd = -1 := by omega
        have n3 : ¬ kd = -2 := by omega
        have n4 : ¬ kd = -3 := by omega
        have n5 : (kd == -4) = false := by rw [beq_eq_false_iff_ne]; omega
        refine ev_neg n1 (ev_neg n2 (ev_neg n3 (ev_neg n4 ?_)))
        show Ev (fun q => seicheref11_Lex.j1 q s T N (i : Int) (kd == -4) kd (z : Int) 0) _
        rw [n5]
        refine Ev.step (fun _ => seicheref11_Lex.j1.eq_2 ..) (ev_neg Bool.false_ne_true (ev_pos (Int.natCast_nonneg _) ?_))
        rw [w, Int.toNat_natCast, Int.toNat_natCast]
        refine ev_pos q1 (ev_pos q2 (ev_pos sT.lt ?_))
        rw [List.append_assoc] at ih
        rw [pe] at ih ⊢
        exact ih
theorem rlex_ev (s : ByteArray) (hs : s.size ≤ 1048576) : Ev (fun k => seicheref11_Lex.f k s) ((lexB s).1, (lexB s).2) := by
  have hk := skp_le (bytesOf s)
  rw [bytesOf_length] at hk
  have hp : Pos s (skp (bytesOf s)) := by
    unfold Pos
    omega
  unfold seicheref11_Lex.f
  exact ev_call (ev_eq (skip_f s)) (rlex_round hs _ (skp (bytesOf s)) [] [] false (Nat.le_refl _) hk.1 hp (Nat.zero_le _) (Nat.zero_le _) rfl)
end Go.Proofs.YtfolmcfcmonkhaaDoor.Fr

