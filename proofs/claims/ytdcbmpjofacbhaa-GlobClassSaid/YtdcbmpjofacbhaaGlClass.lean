/- The laws of chapter 19: the class. -/
import Derived.Test.YtdcbmpjofacbhaaGlC
import Derived.Test.YtdcbmpjofacbhaaPAllx10
namespace Go.Proofs.Ytdcbmpjofacbhaa.Fr
open Go Go.RowKit Go.Proofs.Ytdcbmpjofacbhaa.PAll Go.Proofs.YtdcbmpjofacbhaaW.PrintWords Go.Proofs.YtdcbmpjofacbhaaW.PrintLast Go.Proofs.YtdcbmpjofacbhaaPw
theorem alive_ev : Ev (fun k => seichelaw19_alive.f k) true := Ev.of (fun k => seichelaw19_alive.mono k) (k := 400) (by kernel_rfl)
theorem byte_wf {c : Int} (h : (Lit.int .u8 c).wf = true) : 0 ≤ c ∧ c < 256 := byt_wf (l := [c]) (fun x hx => by rw [List.mem_singleton.1 hx]; exact h) c (by simp)
/-! Classes. -/
theorem holds_one (nt : Bool) (lo hi x : Int) : holdsP ⟨false, nt, [⟨lo, hi⟩]⟩ x = if x = 47 ∧ (nt = true ∨ lo ≠ 47 ∨ hi ≠ 47) then false else (decide (lo ≤ x ∧ x ≤ hi) != nt) := by
  have e1 : (rd_T43 [⟨lo, hi⟩] 0).f0 = lo := rfl
  have e2 : (rd_T43 [⟨lo, hi⟩] 0).f1 = hi := rfl
  have e3 : ([⟨lo, hi⟩] : List S43).length = 1 := rfl
  unfold holdsP
  dsimp only
  rw [e1, e2, e3]
  by_cases h : x = 47 ∧ (nt = true ∨ lo ≠ 47 ∨ hi ≠ 47)
  · rw [if_pos h, if_pos ⟨h.1, by rcases h.2 with h | h | h <;> simp [h]⟩]
  · rw [if_neg h, if_neg (fun k => h ⟨k.1, by rcases k.2 with k | k | k | k <;> simp_all⟩)]
    simp [rng, List.any_cons]
theorem class_one (p : S38) (x : Int) (hp : p.f0 = false) : reach [x] [p] 0 1 ↔ holdsP p x = true := by
  constructor
  · rintro ⟨m, h1, h2⟩
    have h2 : m = 1 := h2
    subst h2
    rcases h1 with ⟨h, _⟩ | ⟨_, _, _, h⟩
    · rw [hp] at h; cases h
    · exact h
  · intro h
    exact ⟨1, .inr ⟨hp, rfl, by simp, h⟩, rfl⟩
theorem GlobClass : seichelaw19_GlobClass.Pure := by
  intro a0 a1 a2 h0 h1 h2
  have hb0 := byte_wf h0
  have hb1 := byte_wf h1
  have hb2 := byte_wf h2
  refine Ev.rounds (g := fun k => seichelaw19_GlobClass.f k a0 a1 a2) (ev_call alive_ev (ev_pos rfl ?_))
  have B : ∀ x y : Int, 0 ≤ x ∧ x < 256 → 0 ≤ y ∧ y < 256 → Byt [x, y] := fun x y hx hy z hz => by
    rcases List.mem_cons.1 hz with rfl | hz
    · exact hx
    · rw [List.mem_singleton.1 hz]; exact hy
  have n0 : bytesOf (strOfNums [92, a0]) = [92, a0] := bytes_str (B _ _ (by omega) hb0)
  have n1 : bytesOf (strOfNums [92, a1]) = [92, a1] := bytes_str (B _ _ (by omega) hb1)
  have n2 : bytesOf (strOfNums [a2]) = [a2] := bytes_str (fun x hx => by rw [List.mem_singleton.1 hx]; exact hb2)
  have z0 : (strOfNums [92, a0]).size = 2 := by rw [strOfNums_size]; rfl
  have z1 : (strOfNums [92, a1]).size = 2 := by rw [strOfNums_size]; rfl
  have z2 : (strOfNums [a2]).size = 1 := by rw [strOfNums_size]; rfl
  refine ev_some (ev_some (ev_some ?_))
  generalize strOfNums [92, a0] = s0 at n0 z0 ⊢
  generalize strOfNums [92, a1] = s1 at n1 z1 ⊢
  generalize strOfNums [a2] = s2 at n2 z2 ⊢
  have hr1 : rngL [92, a0, 93] = some (⟨a0, a0⟩, [93]) := by simp [rngL, oneL]
  have hr3 : rngL [92, a0, 45, 92, a1, 93] = if a1 < a0 then none else some (⟨a0, a1⟩, [93]) := by simp [rngL, oneL]
  have p1 : Parses [⟨false, false, [⟨a0, a0⟩]⟩] (bytesOf (((⟨#[91]⟩ : ByteArray) ++ s0) ++ (⟨#[93]⟩ : ByteArray))) := by
    rw [bytesOf_append, bytesOf_append, n0]
    exact ⟨[], .inr (.inr (.inl ⟨[92, a0, 93], false, [⟨a0, a0⟩], rfl, rfl, ⟨by simp, .inr ⟨rfl, by simp, [93], hr1, rfl⟩⟩⟩)), rfl⟩
  have p2 : Parses [⟨false, true, [⟨a0, a0⟩]⟩] (bytesOf (((⟨#[91, 94]⟩ : ByteArray) ++ s0) ++ (⟨#[93]⟩ : ByteArray))) := by
    rw [bytesOf_append, bytesOf_append, n0]
    exact ⟨[], .inr (.inr (.inl ⟨[94, 92, a0, 93], true, [⟨a0, a0⟩], rfl, rfl, ⟨by simp, .inl ⟨rfl, [92, a0, 93], rfl, [93], hr1, rfl⟩⟩⟩)), rfl⟩
  have b3 : bytesOf (((((⟨#[91]⟩ : ByteArray) ++ s0) ++ (⟨#[45]⟩ : ByteArray)) ++ s1) ++ (⟨#[93]⟩ : ByteArray)) = [91, 92, a0, 45, 92, a1, 93] := by
    rw [bytesOf_append, bytesOf_append, bytesOf_append, bytesOf_append, n0, n1]
    rfl
  have y1 : (⟨#[91]⟩ : ByteArray).size = 1 := rfl
  have y2 : (⟨#[91, 94]⟩ : ByteArray).size = 2 := rfl
  have y3 : (⟨#[93]⟩ : ByteArray).size = 1 := rfl
  have y4 : (⟨#[45]⟩ : ByteArray).size = 1 := rfl
  obtain ⟨r1, e1, f1⟩ := match_of p1 s2 (by simp only [ByteArray.size_append]; omega) (by omega)
  obtain ⟨r2, e2, f2⟩ := match_of p2 s2 (by simp only [ByteArray.size_append]; omega) (by omega)
  rw [n2, z2, class_one _ _ rfl, holds_one] at f1 f2
  have g1 : r1 = (a0 == a2) := by
    rw [Bool.eq_iff_iff, f1, beq_iff_eq]
    by_cases h : a2 = 47 ∧ (false = true ∨ a0 ≠ 47 ∨ a0 ≠ 47)
    · rw [if_pos h]
      constructor
      · intro h; cases h
      · intro e
        have : a0 ≠ 47 := by rcases h.2 with h | h | h <;> first | cases h | exact h
        omega
    · rw [if_neg h, Bool.bne_false, decide_eq_true_iff]
      omega
  have g2 : r2 = if a0 = a2 then false else (a2 != 47) := by
    rw [Bool.eq_iff_iff, f2]
    by_cases h : a2 = 47
    · rw [if_pos ⟨h, .inl rfl⟩]
      simp [h]
    · rw [if_neg (fun k => h k.1)]
      by_cases e : a0 = a2
      · rw [if_pos e, decide_eq_true (show a0 ≤ a2 ∧ a2 ≤ a0 by omega)]; simp
      · rw [if_neg e, decide_eq_false (show ¬ (a0 ≤ a2 ∧ a2 ≤ a0) by omega)]; simp [h]
  have any : ∃ r e, Ev (fun k => glob_Match.f k (((((⟨#[91]⟩ : ByteArray) ++ s0) ++ (⟨#[45]⟩ : ByteArray)) ++ s1) ++ (⟨#[93]⟩ : ByteArray)) s2) (r, e) ∧ Ev (fun k => seichelaw19_GlobClass.j0 k a0 a1 a2 r e false) true := by
    by_cases hlt : a1 < a0
    · rw [if_pos hlt] at hr3
      rcases Match_ev (((((⟨#[91]⟩ : ByteArray) ++ s0) ++ (⟨#[45]⟩ : ByteArray)) ++ s1) ++ (⟨#[93]⟩ : ByteArray)) s2 (by simp only [ByteArray.size_append]; omega) (by omega) with ⟨P, r, h3, _⟩ | ⟨_, h3⟩
      · exfalso
        rw [b3] at h3
        cases P with
        | nil => have h3 : [91, 92, a0, 45, 92, a1, 93] = ([] : List Int) := h3; cases h3
        | cons p P =>
          obtain ⟨rest, h4, _⟩ := h3
          rcases h4 with ⟨k1, _⟩ | ⟨k1, _⟩ | ⟨l1, nt, rs, k1, _, k2, k3⟩ | ⟨c, t, d, k1, _, _, k2, _⟩
          · injection k1 with k1; omega
          · injection k1 with k1; omega
          · injection k1 with _ k1
            subst k1
            rcases k3 with ⟨_, m, k4, _⟩ | ⟨_, _, k4⟩
            · injection k4 with k4; omega
            · cases rs with
              | nil => exact k2 rfl
              | cons r rs => obtain ⟨t, k5, _⟩ := k4; rw [hr3] at k5; cases k5
          · injection k1 with k1; exact k2 k1.symm
      · exact ⟨_, _, h3, Ev.step (fun _ => seichelaw19_GlobClass.j0.eq_2 ..) (ev_neg (by simp) (ev_pos hlt (ev_ret rfl)))⟩
    · rw [if_neg hlt] at hr3
      have p3 : Parses [⟨false, false, [⟨a0, a1⟩]⟩] (bytesOf (((((⟨#[91]⟩ : ByteArray) ++ s0) ++ (⟨#[45]⟩ : ByteArray)) ++ s1) ++ (⟨#[93]⟩ : ByteArray))) := by
        rw [b3]
        exact ⟨[], .inr (.inr (.inl ⟨[92, a0, 45, 92, a1, 93], false, [⟨a0, a1⟩], rfl, rfl, ⟨by simp, .inr ⟨rfl, by simp, [93], hr3, rfl⟩⟩⟩)), rfl⟩
      obtain ⟨r3, e3, f3⟩ := match_of p3 s2 (by simp only [ByteArray.size_append]; omega) (by omega)
      rw [n2, z2, class_one _ _ rfl, holds_one] at f3
      refine ⟨r3, 0, e3, Ev.step (fun _ => seichelaw19_GlobClass.j0.eq_2 ..) (ev_neg (by simp) (ev_neg hlt (ev_pos rfl ?_)))⟩
      have no : ¬ (a0 ≤ a2 ∧ a2 ≤ a1) → r3 = false := fun h => by
        cases hr : r3 with
        | false => rfl
        | true =>
          have := f3.1 hr
          rw [decide_eq_false h] at this
          split at this <;> cases this
      by_cases l1 : a0 ≤ a2
      · refine ev_pos l1 ?_
        by_cases l2 : a2 ≤ a1
        · refine ev_pos l2 ?_
          rw [decide_eq_true (show a0 ≤ a2 ∧ a2 ≤ a1 from ⟨l1, l2⟩)] at f3
          by_cases l3 : a2 = 47
          · refine ev_pos l3 (ev_ret ?_)
            have : r3 = (a0 == a1) := by
              rw [Bool.eq_iff_iff, f3, beq_iff_eq]
              by_cases h : a2 = 47 ∧ (false = true ∨ a0 ≠ 47 ∨ a1 ≠ 47)
              · rw [if_pos h]
                constructor
                · intro h; cases h
                · intro e
                  rcases h.2 with h | h | h
                  · cases h
                  · omega
                  · omega
              · rw [if_neg h]
                have h1 : a0 = 47 := Classical.byContradiction fun e => h ⟨l3, .inr (.inl e)⟩
                have h2 : a1 = 47 := Classical.byContradiction fun e => h ⟨l3, .inr (.inr e)⟩
                rw [h1, h2]
                simp
            rw [this]
            simp
          · rw [if_neg (fun k => l3 k.1)] at f3
            exact ev_neg l3 (ev_ret (by rw [f3.2 rfl]; rfl))
        · exact ev_neg l2 (ev_ret (by rw [no (fun h => l2 h.2)]; rfl))
      · exact ev_neg l1 (ev_ret (by rw [no (fun h => l1 h.1)]; rfl))
  obtain ⟨r3, x3, e3, fin⟩ := any
  refine ev_pos (by omega) (ev_pos (by rw [ByteArray.size_append]; omega) (ev_call e1 (ev_pos (by omega) (ev_pos (by rw [ByteArray.size_append]; omega) (ev_call e2 (ev_pos (by simp only [ByteArray.size_append]; omega) (ev_pos (by simp only [ByteArray.size_append]; omega) (ev_call e3 (ev_pos rfl (ev_pos rfl (ev_neg (by rw [g1]; simp) ?_)))))))))))
  by_cases e : a0 = a2
  · rw [if_pos e] at g2
    subst g2
    exact ev_pos e fin
  · rw [if_neg e] at g2
    subst g2
    refine ev_neg e ?_
    rw [show ((a2 != 47) != (a2 != 47)) = false by simp]
    exact fin
end Go.Proofs.Ytdcbmpjofacbhaa.Fr
