/- Chapter 15 in plain Lean: what a name says, by the program and by the reference. -/
import Derived.Test.YtnpbgegllphfkaaDoorSuZ
namespace Go.Proofs.YtnpbgegllphfkaaDoor.Su
open Go Go.RowKit Go.Proofs.YtnpbgegllphfkaaDoorW.PrintWords Go.Proofs.YtnpbgegllphfkaaDoorPw Go.Proofs.YtnpbgegllphfkaaDoor.PAll Go.Proofs.YtnpbgegllphfkaaDoor
def sysB (x : ByteArray) : Bool := Lib.containsS sysL x
def procB (x : ByteArray) : Bool := Lib.containsS procL x
theorem sys_f (x : ByteArray) : suffix_System.f x = some (sysB x) := rfl
theorem proc_f (x : ByteArray) : suffix_Processor.f x = some (procB x) := rfl
theorem in_l0 (l : List ByteArray) (x : ByteArray) (hl : l.length ≤ 1099511627776) : ∀ d i : Nat, i + d = l.length → Ev (fun k => seicheref13_In.l0 k x l (l.length : Int) (i : Int)) (Lib.containsS (l.drop i) x) := by
  intro d
  induction d with
  | zero =>
    intro i hi
    refine Ev.step (fun _ => seicheref13_In.l0.eq_2 ..) (ev_neg (by omega) (ev_ret ?_))
    rw [List.drop_eq_nil_of_le (by omega)]
    rfl
  | succ d ih =>
    intro i hi
    refine Ev.step (fun _ => seicheref13_In.l0.eq_2 ..) (ev_pos (by omega) (ev_pos (by omega) (ev_pos (by omega) ?_)))
    have hd := drop_rdOf ByteArray.empty l i (by omega)
    have hw : wrap64 ((i : Int) + 1) = ((i + 1 : Nat) : Int) := by rw [w64 (by omega) (by omega)]; omega
    by_cases hx : rdOf ByteArray.empty l (i : Int) = x
    · refine ev_pos (ba_iff.2 hx) (ev_ret ?_)
      rw [hd, hx]
      exact ((Lib.containsS_iff _ _).2 (by simp)).symm
    · refine ev_neg (fun h => hx (ba_inj h)) ?_
      rw [hw]
      refine (congrArg (Ev _) ?_).mpr (ih (i + 1) (by omega))
      rw [hd, Bool.eq_iff_iff, Lib.containsS_iff, Lib.containsS_iff, List.mem_cons]
      exact ⟨fun h => h.resolve_left (fun e => hx e.symm), .inr⟩
theorem in_ev (l : List ByteArray) (x : ByteArray) (hl : l.length ≤ 1099511627776) : Ev (fun k => seicheref13_In.f k l x) (Lib.containsS l x) := in_l0 l x hl l.length 0 (by omega)
theorem rsys_ev (x : ByteArray) : Ev (fun k => seicheref15_System.f k x) (sysB x) := ev_call systems_ev (ev_call (in_ev sysL x (by decide)) (Ev.now _))
theorem rproc_ev (x : ByteArray) : Ev (fun k => seicheref15_Processor.f k x) (procB x) := ev_call processors_ev (ev_call (in_ev procL x (by decide)) (Ev.now _))
abbrev E0 : ByteArray := ⟨#[]⟩
/-- What the last words say. -/
def last1 (w : List ByteArray) : ByteArray := rdOf ByteArray.empty w ((w.length - 1 : Nat) : Int)
def last2 (w : List ByteArray) : ByteArray := rdOf ByteArray.empty w ((w.length - 2 : Nat) : Int)
def wordsSpec (w : List ByteArray) : ByteArray × ByteArray :=
  if 3 ≤ w.length ∧ sysB (last2 w) = true ∧ procB (last1 w) = true then (last2 w, last1 w)
  else if 2 ≤ w.length ∧ sysB (last1 w) = true then (last1 w, E0)
  else if 2 ≤ w.length ∧ procB (last1 w) = true then (E0, last1 w) else (E0, E0)
theorem rd_drop1 (w : List ByteArray) (i : Nat) : rdOf ByteArray.empty (w.drop 1) (i : Int) = rdOf ByteArray.empty w ((i + 1 : Nat) : Int) := by
  simp [rdOf, List.getD_eq_getElem?_getD]
theorem j2_ev (w : List ByteArray) (hw : 1 ≤ w.length) (hl : w.length ≤ 1099511627776) (x7 : Int) (h7 : x7 = (w.length : Int) - 2) (x t : Bool) (hx : x = true → 2 ≤ w.length) :
    Ev (fun k => suffix_Of.j2 k (w.drop 1) x7 x true t E0 E0) (true, t, if x = true then (last1 w, E0) else if 2 ≤ w.length ∧ procB (last1 w) = true then (E0, last1 w) else (E0, E0)) := by
  have hy : (w.drop 1).length = w.length - 1 := by simp
  have hr : 2 ≤ w.length → rdOf ByteArray.empty (w.drop 1) x7 = last1 w := fun h => by
    rw [show x7 = ((w.length - 2 : Nat) : Int) by omega, rd_drop1, last1]
    congr 2
    omega
  refine Ev.step (fun _ => suffix_Of.j2.eq_2 ..) ?_
  simp only [proc_f, Option.bind_some]
  cases x with
  | true =>
    have h2 := hx rfl
    refine ev_pos rfl (ev_pos (by omega) (ev_pos (by omega) (ev_ret ?_)))
    rw [hr h2]
    rfl
  | false =>
    refine ev_neg (by decide) ?_
    by_cases h2 : 2 ≤ w.length
    · refine ev_pos (by omega) (ev_pos (by omega) (ev_pos (by omega) ?_))
      rw [hr h2]
      by_cases hp : procB (last1 w) = true
      · refine ev_pos hp (ev_ret ?_)
        rw [if_neg (by decide), if_pos ⟨h2, hp⟩]
      · refine ev_neg hp (ev_ret ?_)
        rw [if_neg (by decide), if_neg (fun h => hp h.2)]
    · refine ev_neg (by omega) (ev_ret ?_)
      rw [if_neg (by decide), if_neg (fun h => h2 h.1)]
theorem j1_ev (w : List ByteArray) (hw : 1 ≤ w.length) (hl : w.length ≤ 1099511627776) (x7 : Int) (h7 : x7 = (w.length : Int) - 2) (x t : Bool) (hx : x = true → 3 ≤ w.length) :
    Ev (fun k => suffix_Of.j1 k (w.drop 1) x7 x true t E0 E0) (true, t, if x = true then (last2 w, last1 w) else if 2 ≤ w.length ∧ sysB (last1 w) = true then (last1 w, E0) else if 2 ≤ w.length ∧ procB (last1 w) = true then (E0, last1 w) else (E0, E0)) := by
  have hy : (w.drop 1).length = w.length - 1 := by simp
  have hr : 2 ≤ w.length → rdOf ByteArray.empty (w.drop 1) x7 = last1 w := fun h => by
    rw [show x7 = ((w.length - 2 : Nat) : Int) by omega, rd_drop1, last1]
    congr 2
    omega
  have hr2 : 3 ≤ w.length → rdOf ByteArray.empty (w.drop 1) (wrap64 (x7 - 1)) = last2 w := fun h => by
    rw [w64 (by omega) (by omega), show x7 - 1 = ((w.length - 3 : Nat) : Int) by omega, rd_drop1, last2]
    congr 2
    omega
  refine Ev.step (fun _ => suffix_Of.j1.eq_2 ..) ?_
  simp only [sys_f, Option.bind_some]
  cases x with
  | true =>
    have h3 := hx rfl
    have e := w64 (x := x7 - 1) (by omega) (by omega)
    refine ev_pos rfl (ev_pos (by omega) (ev_pos (by omega) (ev_pos (by omega) (ev_pos (by omega) (ev_ret ?_)))))
    rw [hr (by omega), hr2 h3]
    rfl
  | false =>
    refine ev_neg (by decide) ?_
    rw [if_neg (by decide)]
    by_cases h2 : 2 ≤ w.length
    · refine ev_pos (by omega) (ev_pos (by omega) (ev_pos (by omega) ?_))
      rw [hr h2]
      refine (congrArg (Ev _) ?_).mpr (j2_ev w hw hl x7 h7 (sysB (last1 w)) t (fun _ => h2))
      by_cases hp : sysB (last1 w) = true
      · rw [if_pos ⟨h2, hp⟩, if_pos hp]
      · rw [if_neg (fun h => hp h.2), if_neg hp]
    · refine ev_neg (by omega) ?_
      refine (congrArg (Ev _) ?_).mpr (j2_ev w hw hl x7 h7 false t (fun h => by cases h))
      rw [if_neg (fun h => h2 h.1), if_neg (by decide : ¬ false = true)]
abbrev goE : List Int := [46, 103, 111]
abbrev testE : List Int := [95, 116, 101, 115, 116]
def good (l : List Int) : Bool := endsI l goE && !begI l 95 && !begI l 46
def ofSpec (l : List Int) : Bool × Bool × ByteArray × ByteArray :=
  if good l = true then (true, endsI (less l goE) testE, wordsSpec ((cutI 95 (less (less l goE) testE)).map strOfNums)) else (false, false, E0, E0)
theorem byt_less {l p : List Int} (h : Byt l) : Byt (less l p) := by
  unfold less
  split
  · exact byt_take h _
  · exact h
theorem less_length (l p : List Int) : (less l p).length ≤ l.length := by
  unfold less
  split
  · rw [List.length_take]; omega
  · exact Nat.le_refl _
theorem cutI_length (c : Int) : ∀ l : List Int, 1 ≤ (cutI c l).length ∧ (cutI c l).length ≤ l.length + 1
  | [] => by simp [cutI]
  | x :: l => by
    have := cutI_length c l
    rw [cutI]
    split <;> simp <;> omega
theorem size_str (l : List Int) : (strOfNums l).size = l.length := by simp [strOfNums, ByteArray.size]
theorem j0_ev (l : List Int) (hb : Byt l) (hl : l.length ≤ 65536) : Ev (fun k => suffix_Of.j0 k (strOfNums l) false) (true, endsI l testE, wordsSpec ((cutI 95 (less l testE)).map strOfNums)) := by
  have hsz := size_str l
  have hc := cutSuffix_f (strOfNums l) ⟨#[95, 116, 101, 115, 116]⟩ (by omega)
  rw [bytes_str hb] at hc
  have hs := split_f (strOfNums (less l testE)) (by rw [size_str]; have := less_length l testE; omega)
  rw [bytes_str (byt_less hb)] at hs
  refine Ev.step (fun _ => suffix_Of.j0.eq_2 ..) (ev_neg (by decide) ?_)
  have hc' : strings_CutSuffix.f (strOfNums l) ⟨#[95, 116, 101, 115, 116]⟩ = some (strOfNums (less l testE), endsI l testE) := hc
  simp only [hc', hs, Option.bind_some, sys_f, proc_f]
  have hcl := cutI_length 95 (less l testE)
  have hll := less_length l testE
  generalize hw : (cutI 95 (less l testE)).map strOfNums = w
  have hwl : w.length = (cutI 95 (less l testE)).length := by rw [← hw, List.length_map]
  have hy : (w.drop 1).length = w.length - 1 := by simp
  have hn1 : (1 : Int).toNat = 1 := rfl
  refine ev_pos (by omega) ?_
  simp only [hn1]
  have e7 : wrap64 (((w.drop 1).length : Int) - 1) = (w.length : Int) - 2 := by rw [w64 (by omega) (by omega)]; omega
  rw [e7]
  have e8 : wrap64 ((w.length : Int) - 2 - 1) = (w.length : Int) - 3 := by rw [w64 (by omega) (by omega)]; omega
  rw [e8]
  have hj := fun (x : Bool) hx => j1_ev w (by omega) (by omega) ((w.length : Int) - 2) rfl x (endsI l testE) hx
  by_cases h3 : 3 ≤ w.length
  · have hr2 : rdOf ByteArray.empty (w.drop 1) ((w.length : Int) - 3) = last2 w := by
      rw [show (w.length : Int) - 3 = ((w.length - 3 : Nat) : Int) by omega, rd_drop1, last2]
      congr 2
      omega
    have hr1 : rdOf ByteArray.empty (w.drop 1) ((w.length : Int) - 2) = last1 w := by
      rw [show (w.length : Int) - 2 = ((w.length - 2 : Nat) : Int) by omega, rd_drop1, last1]
      congr 2
      omega
    refine ev_pos (by omega) (ev_pos (by omega) (ev_pos (by omega) ?_))
    rw [hr2, hr1]
    unfold wordsSpec
    by_cases hs2 : sysB (last2 w) = true
    · refine ev_pos hs2 (ev_pos (by omega) (ev_pos (by omega) ?_))
      refine (congrArg (Ev _) ?_).mpr (hj (procB (last1 w)) (fun _ => h3))
      by_cases hp : procB (last1 w) = true
      · rw [if_pos ⟨h3, hs2, hp⟩, if_pos hp]
      · rw [if_neg (fun h => hp h.2.2), if_neg hp]
    · refine ev_neg hs2 ?_
      refine (congrArg (Ev _) ?_).mpr (hj false (fun h => by cases h))
      rw [if_neg (fun h => hs2 h.2.1), if_neg (by decide : ¬ false = true)]
  · refine ev_neg (by omega) ?_
    unfold wordsSpec
    refine (congrArg (Ev _) ?_).mpr (hj false (fun h => by cases h))
    rw [if_neg (fun h => h3 h.1), if_neg (by decide : ¬ false = true)]
theorem of_ev (s : ByteArray) (hs : s.size ≤ 65536) : Ev (fun k => suffix_Of.f k s) (ofSpec (bytesOf s)) := by
  have hb := byt_bytesOf s
  have hc : strings_CutSuffix.f s ⟨#[46, 103, 111]⟩ = some (strOfNums (less (bytesOf s) goE), endsI (bytesOf s) goE) := cutSuffix_f s ⟨#[46, 103, 111]⟩ (by omega)
  have hp1 : strings_HasPrefix.f s ⟨#[95]⟩ = some (begI (bytesOf s) 95) := hasPrefix_f s ⟨#[95]⟩ 95 rfl rfl (by omega)
  have hp2 : strings_HasPrefix.f s ⟨#[46]⟩ = some (begI (bytesOf s) 46) := hasPrefix_f s ⟨#[46]⟩ 46 rfl rfl (by omega)
  unfold suffix_Of.f
  simp only [hc, hp1, hp2, Option.bind_some]
  have hbad : Ev (fun k => suffix_Of.j0 k (strOfNums (less (bytesOf s) goE)) true) (false, false, E0, E0) := Ev.step (fun _ => suffix_Of.j0.eq_2 ..) (ev_pos rfl (Ev.now _))
  have hgood := j0_ev (less (bytesOf s) goE) (byt_less hb) (by have := less_length (bytesOf s) goE; rw [bytesOf_length] at this; omega)
  unfold ofSpec good
  cases h0 : endsI (bytesOf s) goE with
  | false => exact ev_neg (by decide) hbad
  | true =>
    refine ev_pos rfl ?_
    cases h1 : begI (bytesOf s) 95 with
    | true => exact ev_pos rfl hbad
    | false =>
      refine ev_neg (by decide) ?_
      cases h2 : begI (bytesOf s) 46 with
      | true => exact hbad
      | false => exact hgood
end Go.Proofs.YtnpbgegllphfkaaDoor.Su
