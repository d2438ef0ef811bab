/- ExprLong, in plain Lean. -/
import Derived.Test.YtcpemjolabofnaaExY
import Derived.Test.YtcpemjolabofnaaPAllxLong
namespace Go.Proofs.Ytcpemjolabofnaa.Fr
open Go Go.RowKit Go.Proofs.Ytcpemjolabofnaa.PAll Go.Proofs.YtcpemjolabofnaaW.PrintWords Go.Proofs.YtcpemjolabofnaaW.PrintLast Go.Proofs.YtcpemjolabofnaaPw
set_option linter.unusedVariables false
set_option linter.unusedSimpArgs false
theorem wf_i64 {x : Int} (h : (Lit.int .i64 x).wf = true) : -9223372036854775808 ≤ x ∧ x ≤ 9223372036854775807 := by
  simp only [Lit.wf, IntKind.min, IntKind.max, IntKind.signed, IntKind.bits, Bool.and_eq_true] at h
  simp at h
  omega
/-- So many signs x. -/
def xs (n : Nat) : List Int := List.replicate n 120
theorem xs_byt (n : Nat) : Byt (xs n) := fun x hx => by
  have := List.eq_of_mem_replicate hx
  omega
theorem xs_tw (n : Nat) : (xs n).takeWhile isT = xs n ∧ (xs n).dropWhile isT = [] := by
  induction n with
  | zero => exact ⟨rfl, rfl⟩
  | succ n ih =>
    have e : xs (n + 1) = 120 :: xs n := rfl
    have t : isT 120 = true := rfl
    rw [e, List.takeWhile_cons, List.dropWhile_cons, if_pos t, if_pos t, ih.1, ih.2]
    exact ⟨rfl, rfl⟩
theorem long_parse (n : Nat) (h1 : 1 ≤ n) (h2 : n ≤ 1024) : expr_Parse.f (strOfNums (xs n)) = some ([strOfNums (xs n)], 0) := by
  have hb : bytesOf (strOfNums (xs n)) = xs n := bytes_str (xs_byt n)
  have hz : (strOfNums (xs n)).size = n := by rw [← bytesOf_length, hb]; exact List.length_replicate
  have hp : pcsS (strOfNums (xs n)) = [strOfNums (xs n)] := by
    unfold pcsS
    rw [hb]
    obtain ⟨m, rfl⟩ : ∃ m, n = m + 1 := ⟨n - 1, by omega⟩
    have e : xs (m + 1) = 120 :: xs m := rfl
    rw [e, pcs_cons, if_neg (show ¬ isB 120 = true by decide), if_pos (show isT 120 = true from rfl), ← e, (xs_tw _).1, (xs_tw _).2]
    rfl
  have ht : rTag (strOfNums (xs n)) = true := by
    unfold rTag tagB
    rw [hb, Bool.and_eq_true]
    refine ⟨List.all_eq_true.2 (fun x hx => by rw [List.eq_of_mem_replicate hx]; rfl), ?_⟩
    obtain ⟨m, rfl⟩ : ∃ m, n = m + 1 := ⟨n - 1, by omega⟩
    rfl
  generalize hy : strOfNums (xs n) = y at hp ht hz ⊢
  obtain ⟨t1, t2, t3, t4, t5, t6⟩ := rTag_ne ht
  have hro : rtk sOpen [y] = (false, [y]) := rtk_no (fun t e => t4 (List.cons.inj e).1)
  have hrn : rtk sNot [y] = (false, [y]) := rtk_no (fun t e => t1 (List.cons.inj e).1)
  have e1 : rpartF 2000 70 = rpartG (rorF 2000 69) := rfl
  have hsz : y.size ≤ 140737488351232 := by omega
  have p1 : rpartF 2000 70 ([y], [], 0) = some (0, [], [y], 0) := by
    rw [e1]
    simp only [rpartG, hro, Bool.false_eq_true, ↓reduceIte, hsz, ht, List.length_nil, List.nil_append]
    simp
  have p2 : notR ([y], [], 0) = some (0, [], [y], 0) := by
    unfold notR rnotF
    simp only [hrn, p1, Option.bind_some, Bool.false_eq_true, and_false, ↓reduceIte]
  have p3 : rorF 2000 70 (pcsS y, [], 0) = some (0, [], [y], 0) := by
    rw [hp, orR_eq]
    exact list_one (list_one p2 (fun t e => by cases e)) (fun t e => by cases e)
  rw [parse_of (by omega) p3]
  simp
/-- The bytes that are written so far. -/
def filled (n i : Nat) : List Int := xs i ++ List.replicate (n - i) 0
theorem filled_len (n i : Nat) (h : i ≤ n) : (filled n i).length = n := by
  unfold filled xs
  rw [List.length_append, List.length_replicate, List.length_replicate]
  omega
theorem filled_set (n i : Nat) (h : i < n) : (filled n i).set i 120 = filled n (i + 1) := by
  unfold filled
  have e : List.replicate (n - i) (0 : Int) = 0 :: List.replicate (n - (i + 1)) 0 := by
    rw [show n - i = (n - (i + 1)) + 1 by omega]
    rfl
  rw [e, List.set_append_right _ _ (by unfold xs; rw [List.length_replicate]; exact Nat.le_refl _)]
  have e2 : xs (i + 1) = xs i ++ [120] := by unfold xs; rw [List.replicate_succ']
  rw [e2, List.append_assoc]
  congr 1
  unfold xs
  rw [List.length_replicate, Nat.sub_self]
  rfl
theorem long_loop (a0 : Int) (n : Nat) (hn : n ≤ 4096) (h : Ev (fun k => seichelaw13_ExprLong.l0 k a0 (xs n) (n : Int) (n : Int)) true) : ∀ (m i : Nat), n - i = m → i ≤ n → Ev (fun k => seichelaw13_ExprLong.l0 k a0 (filled n i) (n : Int) (i : Int)) true
  | 0, i, hm, hi => by
    have e : i = n := by omega
    subst e
    have e2 : filled i i = xs i := by unfold filled; rw [Nat.sub_self]; exact List.append_nil _
    rw [e2]
    exact h
  | m + 1, i, hm, hi => by
    refine Ev.step (fun _ => rfl) ?_
    simp only [seichelaw13_ExprLong.l0]
    have hl := filled_len n i hi
    refine ev_pos (by omega) (ev_pos (by omega) (ev_pos (by rw [hl]; omega) ?_))
    rw [Int.toNat_natCast, filled_set n i (by omega), show wrap64 ((i : Int) + 1) = ((i + 1 : Nat) : Int) by rw [w64 (by omega) (by omega)]; omega]
    exact long_loop a0 n hn h m (i + 1) (by omega) (by omega)
theorem ExprLong : seichelaw13_ExprLong.Pure := by
  intro a0 hwf
  refine Ev.rounds (r := true) ?_
  unfold seichelaw13_ExprLong.f
  refine ev_call alive_ev (ev_pos rfl ?_)
  have hT : Ev (fun k => seichelaw13_ExprLong.j0 k a0 true) true := by
    refine Ev.step (fun _ => rfl) ?_
    simp only [seichelaw13_ExprLong.j0]
    exact ev_pos (by first | trivial | rfl) (Ev.now _)
  by_cases c : a0 < (-3)
  · exact ev_pos c hT
  · refine ev_neg c ?_
    by_cases c2 : a0 > 3
    · rw [decide_eq_true c2]
      exact hT
    · rw [decide_eq_false c2]
      refine Ev.step (fun _ => rfl) ?_
      simp only [seichelaw13_ExprLong.j0]
      have hw : wrap64 (1024 + a0) = 1024 + a0 := w64 (by omega) (by omega)
      rw [hw]
      have k0 : (0 : Int) ≤ 1024 + a0 := by omega
      have k1 : (1024 + a0).toNat ≤ 281474976710656 := by omega
      refine ev_neg (by simp) (ev_pos k0 (ev_pos k1 ?_))
      simp only [Option.bind_some]
      obtain ⟨n, hn⟩ : ∃ n : Nat, n = (1024 + a0).toNat := ⟨_, rfl⟩
      rw [← hn]
      have e0 : List.replicate n (0 : Int) = filled n 0 := by unfold filled xs; rw [Nat.sub_zero]; rfl
      have el : ((List.replicate n (0 : Int)).length : Int) = (n : Int) := by rw [List.length_replicate]
      rw [el, e0]
      refine long_loop a0 n (by omega) ?_ n 0 (by omega) (Nat.zero_le _)
      refine Ev.step (fun _ => rfl) ?_
      simp only [seichelaw13_ExprLong.l0]
      refine ev_neg (by omega) ?_
      have hb : bytesOf (strOfNums (xs n)) = xs n := bytes_str (xs_byt n)
      have hz : (strOfNums (xs n)).size = n := by rw [← bytesOf_length, hb]; exact List.length_replicate
      by_cases c3 : a0 > 0
      · have hp : expr_Parse.f (strOfNums (xs n)) = some ([], 3) := by unfold expr_Parse.f; rw [if_pos (by omega)]
        simp only [hp, Option.bind_some]
        exact ev_pos c3 (ev_pos (by first | trivial | rfl) (ev_ret rfl))
      · have hp := long_parse n (by omega) (by omega)
        simp only [hp, Option.bind_some]
        refine ev_neg c3 (ev_pos (by first | trivial | rfl) (ev_pos (by simp) (ev_pos (by simp) (ev_ret ?_))))
        simp [rdOf]
end Go.Proofs.Ytcpemjolabofnaa.Fr
