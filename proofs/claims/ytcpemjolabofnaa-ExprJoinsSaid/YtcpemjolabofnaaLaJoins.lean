/- ExprJoins, in plain Lean. -/
import Derived.Test.YtcpemjolabofnaaExY
import Derived.Test.YtcpemjolabofnaaPAllxJoins
namespace Go.Proofs.Ytcpemjolabofnaa.Fr
open Go Go.RowKit Go.Proofs.Ytcpemjolabofnaa.PAll Go.Proofs.YtcpemjolabofnaaW.PrintWords Go.Proofs.YtcpemjolabofnaaW.PrintLast Go.Proofs.YtcpemjolabofnaaPw
set_option linter.unusedVariables false
set_option linter.unusedSimpArgs false
/-- A text in brackets. -/
def inB (s : ByteArray) : ByteArray := ((⟨#[40]⟩ : ByteArray) ++ s) ++ (⟨#[41]⟩ : ByteArray)
theorem inB_pcs {s : ByteArray} {X : List ByteArray} (h : expr_Parse.f s = some (X, 0)) : pcsS (inB s) = sOpen :: pcsS s ++ [sShut] := by
  unfold inB
  rw [show ((⟨#[40]⟩ : ByteArray) ++ s) ++ (⟨#[41]⟩ : ByteArray) = sOpen ++ (s ++ sShut) from ByteArray.append_assoc, pcsS_cons sOpen 40 rfl (by omega), pcsS_append h sShut (.inr ⟨41, [], rfl, rfl⟩)]
  rfl
theorem inB_parse {s : ByteArray} {X : List ByteArray} (h : expr_Parse.f s = some (X, 0)) (hs : s.size ≤ 1000) : expr_Parse.f (inB s) = some (X, 0) ∨ expr_Parse.f (inB s) = some ([], 8) := by
  obtain ⟨_, d1, h2⟩ := parse_ok h
  have hz : (inB s).size ≤ 1024 := by unfold inB; rw [ByteArray.size_append, ByteArray.size_append]; show 1 + s.size + 1 ≤ 1024; omega
  have hlen : (sOpen :: pcsS s ++ [sShut]).length ≤ 8192 := by
    have := P_len (bytesOf s)
    rw [bytesOf_length] at this
    have e : (pcsS s).length ≤ s.size := this
    simp only [List.length_append, List.length_cons, List.length_nil]
    omega
  rcases paren h2 with hp | hp
  · left
    have h3 := hp [] [] (by rw [List.append_nil]; simpa using hlen)
    rw [List.append_nil, List.nil_append] at h3
    have h4 : notR (sOpen :: pcsS s ++ [sShut], [], 0) = some (0, [], X, 0) := by rw [← h3]; exact (not_open (A := pcsS s) (K := [sShut]))
    have h5 : rorF 2000 70 (pcsS (inB s), [], 0) = some (0, [], X, 0) := by
      rw [inB_pcs h, orR_eq]
      exact list_one (list_one h4 (fun t e => by cases e)) (fun t e => by cases e)
    rw [parse_of hz h5]
    simp
  · right
    obtain ⟨L2, O2, d2, h3, _⟩ := hp [] [] (by rw [List.append_nil]; simpa using hlen)
    rw [List.append_nil] at h3
    have h4 : notR (sOpen :: pcsS s ++ [sShut], [], 0) = some (8, L2, O2, d2) := by rw [← h3]; exact (not_open (A := pcsS s) (K := [sShut]))
    have h5 : rorF 2000 70 (pcsS (inB s), [], 0) = some (8, L2, O2, d2) := by
      rw [inB_pcs h, orR_eq]
      exact list_err (by omega) (list_err (by omega) h4)
    rw [parse_of hz h5]
    simp
/-- Eval of whatever Parse answers. -/
theorem eval_some {s : ByteArray} {X : List ByteArray} {e : Int} (h : expr_Parse.f s = some (X, e)) (on : List ByteArray) (ho : on.length ≤ 4294967296) : ∃ r, expr_Eval.f X on = some r := by
  by_cases e0 : e = 0
  · subst e0
    obtain ⟨hl, v, hv⟩ := parse_val h on
    exact ⟨_, eval_f hl ho (parse_small h) hv⟩
  · have hX : X = [] := by
      unfold expr_Parse.f at h
      split at h
      · exact (Prod.mk.inj (Option.some.inj h)).1.symm
      · obtain ⟨r, _, h2⟩ := Option.bind_eq_some_iff.mp h
        split at h2
        · split at h2
          · exact absurd (Prod.mk.inj (Option.some.inj h2)).2.symm e0
          · exact (Prod.mk.inj (Option.some.inj h2)).1.symm
        · exact (Prod.mk.inj (Option.some.inj h2)).1.symm
    subst hX
    exact ⟨_, by unfold expr_Eval.f; rw [if_pos ⟨by simp, ho, fun x hx => by cases hx⟩]⟩
theorem val_two {on X Z : List ByteArray} {v u : Bool} {sg : ByteArray} {f : Bool → Bool → Bool} (ho : Opr sg f) (h1 : Val on X v) (h2 : Val on Z u) : Val on (X ++ Z ++ [sg]) (f v u) := by
  intro Y st
  rw [List.append_assoc, List.append_assoc, h1, h2]
  exact step_go (ho.step on st v u) Y
theorem sg_piece (x : Int) (hx : x = 33 ∨ x = 40 ∨ x = 41) (l : List Int) : pcs (x :: l) = [x] :: pcs l := by
  rw [pcs_cons]
  have h1 : isB x = false := by rcases hx with rfl | rfl | rfl <;> rfl
  have h2 : isT x = false := by rcases hx with rfl | rfl | rfl <;> rfl
  rw [if_neg (by rw [h1]; simp), if_neg (by rw [h2]; simp), if_pos hx]
theorem blank_piece (l : List Int) : pcs (32 :: l) = pcs l := by rw [pcs_cons, if_pos (show isB 32 = true from rfl)]
theorem two_piece (x : Int) (hx : x = 38 ∨ x = 124) (l : List Int) : pcs (x :: x :: l) = [x, x] :: pcs l := by
  rw [pcs_cons]
  have h1 : isB x = false := by rcases hx with rfl | rfl <;> rfl
  have h2 : isT x = false := by rcases hx with rfl | rfl <;> rfl
  rw [if_neg (by rw [h1]; simp), if_neg (by rw [h2]; simp), if_neg (by omega), if_pos ⟨hx, rfl⟩]
  rfl
def brA (s : ByteArray) : List ByteArray := sOpen :: pcsS s ++ [sShut]
theorem shut_pcs {b : ByteArray} {X : List ByteArray} (h : expr_Parse.f b = some (X, 0)) : (pcs (bytesOf (b ++ sShut))).map strOfNums = pcsS b ++ [sShut] := pcsS_append h sShut (.inr ⟨41, [], rfl, rfl⟩)
/-- Two texts in brackets, with a sign between. -/
theorem two_pcs {a b : ByteArray} {X Z : List ByteArray} (ha : expr_Parse.f a = some (X, 0)) (hb : expr_Parse.f b = some (Z, 0)) (c sg : ByteArray) (hc : bytesOf c = 41 :: (bytesOf c).tail) (h : ∀ l : List Int, pcs (bytesOf c ++ l) = [41] :: bytesOf sg :: [40] :: pcs l) :
    pcsS (((((⟨#[40]⟩ : ByteArray) ++ a) ++ c) ++ b) ++ (⟨#[41]⟩ : ByteArray)) = brA a ++ sg :: brA b := by
  have e : ((((⟨#[40]⟩ : ByteArray) ++ a) ++ c) ++ b) ++ (⟨#[41]⟩ : ByteArray) = sOpen ++ (a ++ (c ++ (b ++ sShut))) := by
    simp only [ByteArray.append_assoc]
    rfl
  rw [e, pcsS_cons sOpen 40 rfl (by omega), pcsS_append ha (c ++ (b ++ sShut)) (.inr ⟨41, (bytesOf c).tail ++ bytesOf (b ++ sShut), by rw [bytesOf_append, hc]; rfl, rfl⟩)]
  have e2 : pcsS (c ++ (b ++ sShut)) = sShut :: sg :: sOpen :: (pcsS b ++ [sShut]) := by
    unfold pcsS
    rw [bytesOf_append, h, List.map_cons, List.map_cons, List.map_cons, shut_pcs hb, str_bytes]
    rfl
  rw [e2]
  unfold brA
  simp
theorem not_pcs {a : ByteArray} {X : List ByteArray} (ha : expr_Parse.f a = some (X, 0)) : pcsS (((⟨#[33, 32, 40]⟩ : ByteArray) ++ a) ++ (⟨#[41]⟩ : ByteArray)) = sNot :: brA a := by
  rw [ByteArray.append_assoc]
  unfold pcsS
  rw [bytesOf_append]
  show (pcs (33 :: 32 :: 40 :: bytesOf (a ++ sShut))).map strOfNums = _
  rw [sg_piece 33 (by omega), blank_piece, sg_piece 40 (by omega), List.map_cons, List.map_cons, shut_pcs ha]
  rfl
theorem part_not {A K O X : List ByteArray} (hA : PartOK (sOpen :: A) X) (hw : O.length + (sOpen :: A ++ K).length ≤ 8192) : notR (sOpen :: A ++ K, O, 0) = some (0, K, O ++ X, 0) := by
  rw [not_open]
  exact hA K O hw
theorem part_ok {a : ByteArray} {X : List ByteArray} (ha : expr_Parse.f a = some (X, 0)) (hs : a.size ≤ 1000) {Z : List ByteArray} (hb : expr_Parse.f (inB a) = some (Z, 0)) : PartOK (brA a) X := by
  obtain ⟨_, d1, h2⟩ := parse_ok ha
  rcases paren h2 with hp | hp
  · exact hp
  · have hlen : (sOpen :: pcsS a ++ [sShut]).length ≤ 8192 := by
      have := P_len (bytesOf a)
      rw [bytesOf_length] at this
      have e : (pcsS a).length ≤ a.size := this
      simp only [List.length_append, List.length_cons, List.length_nil]
      omega
    obtain ⟨L2, O2, d2, h3, _⟩ := hp [] [] (by rw [List.append_nil]; simpa using hlen)
    rw [List.append_nil] at h3
    have h4 : notR (sOpen :: pcsS a ++ [sShut], [], 0) = some (8, L2, O2, d2) := by rw [← h3]; exact (not_open (A := pcsS a) (K := [sShut]))
    have h5 : rorF 2000 70 (pcsS (inB a), [], 0) = some (8, L2, O2, d2) := by
      rw [inB_pcs ha, orR_eq]
      exact list_err (by omega) (list_err (by omega) h4)
    have hz : (inB a).size ≤ 1024 := by unfold inB; rw [ByteArray.size_append, ByteArray.size_append]; show 1 + a.size + 1 ≤ 1024; omega
    have h6 := parse_of hz h5
    rw [hb] at h6
    simp at h6
theorem brA_len (a : ByteArray) : (brA a).length ≤ a.size + 2 := by
  have := P_len (bytesOf a)
  rw [bytesOf_length] at this
  have e : (pcsS a).length ≤ a.size := this
  unfold brA
  simp only [List.length_append, List.length_cons, List.length_nil]
  omega
theorem brA_cons (a : ByteArray) : brA a = sOpen :: (pcsS a ++ [sShut]) := by unfold brA; simp
section
variable {a b : ByteArray} {X Z : List ByteArray}
theorem run_not (hA : PartOK (brA a) X) (K O : List ByteArray) (hw : O.length + (brA a ++ K).length ≤ 8192) : notR (brA a ++ K, O, 0) = some (0, K, O ++ X, 0) := by
  rw [brA_cons] at hA hw ⊢
  exact part_not hA hw
theorem parse_or (ha : expr_Parse.f a = some (X, 0)) (hb : expr_Parse.f b = some (Z, 0)) (hA : PartOK (brA a) X) (hB : PartOK (brA b) Z) (h1 : a.size ≤ 400) (h2 : b.size ≤ 400) :
    expr_Parse.f (((((⟨#[40]⟩ : ByteArray) ++ a) ++ (⟨#[41, 32, 124, 124, 32, 40]⟩ : ByteArray)) ++ b) ++ (⟨#[41]⟩ : ByteArray)) = some (X ++ Z ++ [sOr], 0) := by
  have hp := two_pcs ha hb (⟨#[41, 32, 124, 124, 32, 40]⟩ : ByteArray) sOr rfl (fun l => by
    show pcs (41 :: 32 :: 124 :: 124 :: 32 :: 40 :: l) = _
    rw [sg_piece 41 (by omega), blank_piece, two_piece 124 (by omega), blank_piece, sg_piece 40 (by omega)]
    rfl)
  have hz : (((((⟨#[40]⟩ : ByteArray) ++ a) ++ (⟨#[41, 32, 124, 124, 32, 40]⟩ : ByteArray)) ++ b) ++ (⟨#[41]⟩ : ByteArray)).size ≤ 1024 := by
    simp only [ByteArray.size_append]
    show 1 + a.size + 6 + b.size + 1 ≤ 1024
    omega
  have la := brA_len a
  have lb := brA_len b
  have lX := (parse_val ha []).1
  have lZ := (parse_val hb []).1
  have e1 := run_not hA (sOr :: brA b) [] (by simp only [List.length_append, List.length_cons, List.length_nil]; omega)
  have e2 := run_not hB [] ([] ++ X) (by simp only [List.length_append, List.length_nil]; omega)
  rw [List.append_nil] at e2
  have e3 : rorF 2000 70 (brA a ++ sOr :: brA b, [], 0) = some (0, [], [] ++ X ++ Z ++ [sOr], 0) := by
    rw [orR_eq]
    exact list_two (list_one e1 (fun t e => absurd (List.cons.inj e).1 (by decide))) (list_one e2 (fun t e => by cases e)) (by simp only [List.length_append, List.length_nil]; omega) (fun t e => by cases e)
  rw [← hp] at e3
  rw [parse_of hz e3]
  simp
theorem parse_and (ha : expr_Parse.f a = some (X, 0)) (hb : expr_Parse.f b = some (Z, 0)) (hA : PartOK (brA a) X) (hB : PartOK (brA b) Z) (h1 : a.size ≤ 400) (h2 : b.size ≤ 400) :
    expr_Parse.f (((((⟨#[40]⟩ : ByteArray) ++ a) ++ (⟨#[41, 38, 38, 40]⟩ : ByteArray)) ++ b) ++ (⟨#[41]⟩ : ByteArray)) = some (X ++ Z ++ [sAnd], 0) := by
  have hp := two_pcs ha hb (⟨#[41, 38, 38, 40]⟩ : ByteArray) sAnd rfl (fun l => by
    show pcs (41 :: 38 :: 38 :: 40 :: l) = _
    rw [sg_piece 41 (by omega), two_piece 38 (by omega), sg_piece 40 (by omega)]
    rfl)
  have hz : (((((⟨#[40]⟩ : ByteArray) ++ a) ++ (⟨#[41, 38, 38, 40]⟩ : ByteArray)) ++ b) ++ (⟨#[41]⟩ : ByteArray)).size ≤ 1024 := by
    simp only [ByteArray.size_append]
    show 1 + a.size + 4 + b.size + 1 ≤ 1024
    omega
  have la := brA_len a
  have lb := brA_len b
  have lX := (parse_val ha []).1
  have lZ := (parse_val hb []).1
  have e1 := run_not hA (sAnd :: brA b) [] (by simp only [List.length_append, List.length_cons, List.length_nil]; omega)
  have e2 := run_not hB [] ([] ++ X) (by simp only [List.length_append, List.length_nil]; omega)
  rw [List.append_nil] at e2
  have e3 : rorF 2000 70 (brA a ++ sAnd :: brA b, [], 0) = some (0, [], [] ++ X ++ Z ++ [sAnd], 0) := by
    rw [orR_eq]
    exact list_one (list_two e1 e2 (by simp only [List.length_append, List.length_nil]; omega) (fun t e => by cases e)) (fun t e => by cases e)
  rw [← hp] at e3
  rw [parse_of hz e3]
  simp
theorem parse_not (ha : expr_Parse.f a = some (X, 0)) (hA : PartOK (brA a) X) (h1 : a.size ≤ 400) : expr_Parse.f (((⟨#[33, 32, 40]⟩ : ByteArray) ++ a) ++ (⟨#[41]⟩ : ByteArray)) = some (X ++ [sNot], 0) := by
  have hp := not_pcs ha
  have hz : (((⟨#[33, 32, 40]⟩ : ByteArray) ++ a) ++ (⟨#[41]⟩ : ByteArray)).size ≤ 1024 := by
    simp only [ByteArray.size_append]
    show 3 + a.size + 1 ≤ 1024
    omega
  have la := brA_len a
  have lX := (parse_val ha []).1
  have e0 := hA [] [] (by simp only [List.append_nil, List.length_nil]; omega)
  rw [List.append_nil] at e0
  have hl : ([] ++ X).length < 4398046511104 := by simp only [List.nil_append]; omega
  have e1 : notR (sNot :: brA a, [], 0) = some (0, [], [] ++ X ++ [sNot], 0) := by
    unfold notR rnotF
    simp only [rtk_yes, e0, Option.bind_some, and_self, ↓reduceIte, hl]
  have e3 : rorF 2000 70 (sNot :: brA a, [], 0) = some (0, [], [] ++ X ++ [sNot], 0) := by
    rw [orR_eq]
    exact list_one (list_one e1 (fun t e => by cases e)) (fun t e => by cases e)
  rw [← hp] at e3
  rw [parse_of hz e3]
  simp
end
theorem ExprJoins : seichelaw13_ExprJoins.Pure := by
  intro a0 a1 l2 h0 h1 m2 y2 w2
  refine Ev.rounds (r := true) ?_
  unfold seichelaw13_ExprJoins.f
  refine ev_call alive_ev (ev_pos rfl ?_)
  have hT : Ev (fun k => seichelaw13_ExprJoins.j0 k a0 a1 l2 true) true := by
    refine Ev.step (fun _ => rfl) ?_
    simp only [seichelaw13_ExprJoins.j0]
    exact ev_pos (by first | trivial | rfl) (Ev.now _)
  have hT1 : ∀ X Z, Ev (fun k => seichelaw13_ExprJoins.j1 k a0 a1 l2 X Z true) true := fun X Z => by
    refine Ev.step (fun _ => rfl) ?_
    simp only [seichelaw13_ExprJoins.j1]
    exact ev_pos (by first | trivial | rfl) (Ev.now _)
  by_cases c : (a0.size : Int) > 400
  · exact ev_pos c hT
  refine ev_neg c ?_
  by_cases c1 : (a1.size : Int) > 400
  · exact ev_pos c1 hT
  refine ev_neg c1 ?_
  by_cases c2 : (l2.length : Int) > 60
  · rw [decide_eq_true c2]
    exact hT
  rw [decide_eq_false c2]
  have n0 : a0.size ≤ 400 := by omega
  have n1 : a1.size ≤ 400 := by omega
  have nl : l2.length ≤ 4294967296 := by omega
  refine Ev.step (fun _ => rfl) ?_
  simp only [seichelaw13_ExprJoins.j0]
  have q1 : 1 + a0.size ≤ 9223372036854775807 := by omega
  have q2 : ((⟨#[40]⟩ : ByteArray) ++ a0).size + 1 ≤ 9223372036854775807 := by rw [ByteArray.size_append]; show 1 + a0.size + 1 ≤ _; omega
  have q3 : 1 + a1.size ≤ 9223372036854775807 := by omega
  have q4 : ((⟨#[40]⟩ : ByteArray) ++ a1).size + 1 ≤ 9223372036854775807 := by rw [ByteArray.size_append]; show 1 + a1.size + 1 ≤ _; omega
  refine ev_neg (by simp) (ev_pos q1 (ev_pos q2 ?_))
  obtain ⟨⟨L, e1⟩, p1, _, _⟩ := parse_same (inB a0)
  obtain ⟨⟨M, e2⟩, p2, _, _⟩ := parse_same (inB a1)
  have p1' : expr_Parse.f (((⟨#[40]⟩ : ByteArray) ++ a0) ++ (⟨#[41]⟩ : ByteArray)) = some (L, e1) := p1
  have p2' : expr_Parse.f (((⟨#[40]⟩ : ByteArray) ++ a1) ++ (⟨#[41]⟩ : ByteArray)) = some (M, e2) := p2
  simp only [p1', Option.bind_some]
  refine ev_pos q3 (ev_pos q4 ?_)
  simp only [p2', Option.bind_some]
  by_cases z1 : e1 = 0
  case neg => exact ev_neg z1 (hT1 _ _)
  refine ev_pos z1 ?_
  by_cases z2 : e2 = 0
  case neg =>
    rw [show (e2 != 0) = true from bne_iff_ne.mpr z2]
    exact hT1 _ _
  rw [show (e2 != 0) = false from bne_eq_false_iff_eq.mpr z2]
  subst z1 z2
  refine Ev.step (fun _ => rfl) ?_
  simp only [seichelaw13_ExprJoins.j1]
  refine ev_neg (by simp) ?_
  obtain ⟨r1, v1⟩ := eval_some p1 l2 nl
  obtain ⟨r2, v2⟩ := eval_some p2 l2 nl
  simp only [v1, v2, Option.bind_some]
  have s1 : ((⟨#[40]⟩ : ByteArray) ++ a0).size + 6 ≤ 9223372036854775807 := by rw [ByteArray.size_append]; show 1 + a0.size + 6 ≤ _; omega
  have s2 : (((⟨#[40]⟩ : ByteArray) ++ a0) ++ (⟨#[41, 32, 124, 124, 32, 40]⟩ : ByteArray)).size + a1.size ≤ 9223372036854775807 := by simp only [ByteArray.size_append]; show 1 + a0.size + 6 + a1.size ≤ _; omega
  have s3 : ((((⟨#[40]⟩ : ByteArray) ++ a0) ++ (⟨#[41, 32, 124, 124, 32, 40]⟩ : ByteArray)) ++ a1).size + 1 ≤ 9223372036854775807 := by simp only [ByteArray.size_append]; show 1 + a0.size + 6 + a1.size + 1 ≤ _; omega
  have s4 : ((⟨#[40]⟩ : ByteArray) ++ a0).size + 4 ≤ 9223372036854775807 := by rw [ByteArray.size_append]; show 1 + a0.size + 4 ≤ _; omega
  have s5 : (((⟨#[40]⟩ : ByteArray) ++ a0) ++ (⟨#[41, 38, 38, 40]⟩ : ByteArray)).size + a1.size ≤ 9223372036854775807 := by simp only [ByteArray.size_append]; show 1 + a0.size + 4 + a1.size ≤ _; omega
  have s6 : ((((⟨#[40]⟩ : ByteArray) ++ a0) ++ (⟨#[41, 38, 38, 40]⟩ : ByteArray)) ++ a1).size + 1 ≤ 9223372036854775807 := by simp only [ByteArray.size_append]; show 1 + a0.size + 4 + a1.size + 1 ≤ _; omega
  have s7 : 3 + a0.size ≤ 9223372036854775807 := by omega
  have s8 : ((⟨#[33, 32, 40]⟩ : ByteArray) ++ a0).size + 1 ≤ 9223372036854775807 := by rw [ByteArray.size_append]; show 3 + a0.size + 1 ≤ _; omega
  refine ev_pos q1 (ev_pos s1 (ev_pos s2 (ev_pos s3 ?_)))
  obtain ⟨⟨Pp, ep⟩, pp, _, _⟩ := parse_same (((((⟨#[40]⟩ : ByteArray) ++ a0) ++ (⟨#[41, 32, 124, 124, 32, 40]⟩ : ByteArray)) ++ a1) ++ (⟨#[41]⟩ : ByteArray))
  obtain ⟨⟨Pq, eq⟩, pq, _, _⟩ := parse_same (((((⟨#[40]⟩ : ByteArray) ++ a0) ++ (⟨#[41, 38, 38, 40]⟩ : ByteArray)) ++ a1) ++ (⟨#[41]⟩ : ByteArray))
  obtain ⟨⟨Pr, er⟩, pr, _, _⟩ := parse_same (((⟨#[33, 32, 40]⟩ : ByteArray) ++ a0) ++ (⟨#[41]⟩ : ByteArray))
  simp only [pp, Option.bind_some]
  refine ev_pos s4 (ev_pos s5 (ev_pos s6 ?_))
  simp only [pq, Option.bind_some]
  refine ev_pos s7 (ev_pos s8 ?_)
  obtain ⟨⟨up, fp⟩, vp⟩ := eval_some pp l2 nl
  obtain ⟨⟨uq, fq⟩, vq⟩ := eval_some pq l2 nl
  obtain ⟨⟨ur, fr⟩, vr⟩ := eval_some pr l2 nl
  obtain ⟨⟨X, ea⟩, pa, _, _⟩ := parse_same a0
  obtain ⟨⟨Z, eb⟩, pb, _, _⟩ := parse_same a1
  simp only [pr, vp, vq, vr, pa, pb, Option.bind_some]
  by_cases za : ea = 0
  case neg => exact ev_neg za (Ev.now _)
  refine ev_pos za ?_
  by_cases zb : eb = 0
  case neg => exact ev_neg zb (Ev.now _)
  refine ev_pos zb ?_
  subst za zb
  have hA := part_ok pa (by omega) p1
  have hB := part_ok pb (by omega) p2
  have g1 := parse_or pa pb hA hB n0 n1
  have g2 := parse_and pa pb hA hB n0 n1
  have g3 := parse_not pa hA n0
  rw [pp] at g1
  rw [pq] at g2
  rw [pr] at g3
  obtain ⟨rfl, rfl⟩ := Prod.mk.inj (Option.some.inj g1)
  obtain ⟨rfl, rfl⟩ := Prod.mk.inj (Option.some.inj g2)
  obtain ⟨rfl, rfl⟩ := Prod.mk.inj (Option.some.inj g3)
  have hL : L = X := by
    rcases inB_parse pa (by omega) with h | h
    · rw [p1] at h; exact (Prod.mk.inj (Option.some.inj h)).1
    · rw [p1] at h; exact absurd (Prod.mk.inj (Option.some.inj h)).2 (by omega)
  have hM : M = Z := by
    rcases inB_parse pb (by omega) with h | h
    · rw [p2] at h; exact (Prod.mk.inj (Option.some.inj h)).1
    · rw [p2] at h; exact absurd (Prod.mk.inj (Option.some.inj h)).2 (by omega)
  subst hL hM
  obtain ⟨lX, x, hx⟩ := parse_val pa l2
  obtain ⟨lZ, y, hy⟩ := parse_val pb l2
  have f1 := eval_f lX nl (parse_small pa) hx
  have f2 := eval_f lZ nl (parse_small pb) hy
  have lp := (parse_val pp l2).1
  have lq := (parse_val pq l2).1
  have lr := (parse_val pr l2).1
  have f3 := eval_f lp nl (parse_small pp) (val_two opr_or hx hy)
  have f4 := eval_f lq nl (parse_small pq) (val_two opr_and hx hy)
  have f5 := eval_f lr nl (parse_small pr) (val_not hx)
  rw [v1] at f1
  rw [v2] at f2
  rw [vp] at f3
  rw [vq] at f4
  rw [vr] at f5
  obtain rfl := Option.some.inj f1
  obtain rfl := Option.some.inj f2
  obtain ⟨rfl, _⟩ := Prod.mk.inj (Option.some.inj f3)
  obtain ⟨rfl, _⟩ := Prod.mk.inj (Option.some.inj f4)
  obtain ⟨rfl, _⟩ := Prod.mk.inj (Option.some.inj f5)
  refine ev_pos (by first | trivial | rfl) (ev_pos (by first | trivial | rfl) (ev_pos (by first | trivial | rfl) ?_))
  cases x with
  | true => exact ev_pos (by first | trivial | rfl) (ev_pos (by cases y <;> rfl) (ev_pos (by cases y <;> rfl) (ev_ret (by cases y <;> rfl))))
  | false => exact ev_neg (by simp) (ev_pos (by cases y <;> rfl) (ev_pos (by cases y <;> rfl) (ev_ret (by cases y <;> rfl))))
end Go.Proofs.Ytcpemjolabofnaa.Fr
