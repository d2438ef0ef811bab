/- ExprMeans, in plain Lean. -/
import Derived.Test.YtcpemjolabofnaaExY
import Derived.Test.YtcpemjolabofnaaPAllxMeans
namespace Go.Proofs.Ytcpemjolabofnaa.Fr
open Go Go.RowKit Go.Proofs.Ytcpemjolabofnaa.PAll Go.Proofs.YtcpemjolabofnaaW.PrintWords Go.Proofs.YtcpemjolabofnaaW.PrintLast Go.Proofs.YtcpemjolabofnaaPw
set_option linter.unusedVariables false
set_option linter.unusedSimpArgs false
/-- A text in brackets. -/
def inB (s : ByteArray) : ByteArray := ((⟨#[40]⟩ : ByteArray) ++ s) ++ (⟨#[41]⟩ : ByteArray)
theorem inB_pcs {s : ByteArray} {X : List ByteArray} (h : expr_Parse.f s = some (X, 0)) : pcsS (inB s) = sOpen :: pcsS s ++ [sShut] := by
  unfold inB
  rw [show ((⟨#[40]⟩ : ByteArray) ++ s) ++ (⟨#[41]⟩ : ByteArray) = sOpen ++ (s ++ sShut) from ByteArray.append_assoc, pcsS_cons sOpen 40 rfl (by omega), pcsS_append h sShut (.inr ⟨41, [], rfl, rfl⟩)]
  rfl
theorem inB_parse {s : ByteArray} {X : List ByteArray} (h : expr_Parse.f s = some (X, 0)) (hs : s.size ≤ 1000) : expr_Parse.f (inB s) = some (X, 0) ∨ expr_Parse.f (inB s) = some ([], 8) := by
  obtain ⟨_, d1, h2⟩ := parse_ok h
  have hz : (inB s).size ≤ 1024 := by unfold inB; rw [ByteArray.size_append, ByteArray.size_append]; show 1 + s.size + 1 ≤ 1024; omega
  have hlen : (sOpen :: pcsS s ++ [sShut]).length ≤ 8192 := by
    have := P_len (bytesOf s)
    rw [bytesOf_length] at this
    have e : (pcsS s).length ≤ s.size := this
    simp only [List.length_append, List.length_cons, List.length_nil]
    omega
  rcases paren h2 with hp | hp
  · left
    have h3 := hp [] [] (by rw [List.append_nil]; simpa using hlen)
    rw [List.append_nil, List.nil_append] at h3
    have h4 : notR (sOpen :: pcsS s ++ [sShut], [], 0) = some (0, [], X, 0) := by rw [← h3]; exact (not_open (A := pcsS s) (K := [sShut]))
    have h5 : rorF 2000 70 (pcsS (inB s), [], 0) = some (0, [], X, 0) := by
      rw [inB_pcs h, orR_eq]
      exact list_one (list_one h4 (fun t e => by cases e)) (fun t e => by cases e)
    rw [parse_of hz h5]
    simp
  · right
    obtain ⟨L2, O2, d2, h3, _⟩ := hp [] [] (by rw [List.append_nil]; simpa using hlen)
    rw [List.append_nil] at h3
    have h4 : notR (sOpen :: pcsS s ++ [sShut], [], 0) = some (8, L2, O2, d2) := by rw [← h3]; exact (not_open (A := pcsS s) (K := [sShut]))
    have h5 : rorF 2000 70 (pcsS (inB s), [], 0) = some (8, L2, O2, d2) := by
      rw [inB_pcs h, orR_eq]
      exact list_err (by omega) (list_err (by omega) h4)
    rw [parse_of hz h5]
    simp
theorem blank_parse {s : ByteArray} {X : List ByteArray} (h : expr_Parse.f s = some (X, 0)) (hs : s.size ≤ 1000) : expr_Parse.f (((⟨#[32, 9]⟩ : ByteArray) ++ s) ++ (⟨#[32]⟩ : ByteArray)) = some (X, 0) := by
  obtain ⟨_, d1, h2⟩ := parse_ok h
  have hz : (((⟨#[32, 9]⟩ : ByteArray) ++ s) ++ (⟨#[32]⟩ : ByteArray)).size ≤ 1024 := by rw [ByteArray.size_append, ByteArray.size_append]; show 2 + s.size + 1 ≤ 1024; omega
  have hp : pcsS (((⟨#[32, 9]⟩ : ByteArray) ++ s) ++ (⟨#[32]⟩ : ByteArray)) = pcsS s := by
    have e1 : pcsS (s ++ (⟨#[32]⟩ : ByteArray)) = pcsS s := by
      rw [pcsS_append h _ (.inr ⟨32, [], rfl, rfl⟩)]
      exact List.append_nil _
    rw [ByteArray.append_assoc, ← e1]
    unfold pcsS
    rw [bytesOf_append]
    have e2 : bytesOf (⟨#[32, 9]⟩ : ByteArray) = [32, 9] := rfl
    rw [e2]
    show (pcs (32 :: 9 :: bytesOf (s ++ ⟨#[32]⟩))).map strOfNums = _
    rw [pcs_cons, if_pos (show isB 32 = true from rfl), pcs_cons, if_pos (show isB 9 = true from rfl)]
  rw [← hp] at h2
  rw [parse_of hz h2]
  simp
theorem ExprMeans : seichelaw13_ExprMeans.Pure := by
  intro a0 l1 h0 m1 y1 w1
  refine Ev.rounds (r := true) ?_
  unfold seichelaw13_ExprMeans.f
  refine ev_call alive_ev (ev_pos rfl ?_)
  have hT : Ev (fun k => seichelaw13_ExprMeans.j0 k a0 l1 true) true := by
    refine Ev.step (fun _ => rfl) ?_
    simp only [seichelaw13_ExprMeans.j0]
    exact ev_pos (by first | trivial | rfl) (Ev.now _)
  by_cases c : (a0.size : Int) > 900
  · exact ev_pos c hT
  · refine ev_neg c ?_
    by_cases c2 : (l1.length : Int) > 60
    · rw [decide_eq_true c2]
      exact hT
    · rw [decide_eq_false c2]
      refine Ev.step (fun _ => rfl) ?_
      simp only [seichelaw13_ExprMeans.j0]
      refine ev_neg (by simp) ?_
      obtain ⟨⟨X, e⟩, h1, _, hl⟩ := parse_same a0
      simp only [h1, Option.bind_some]
      by_cases e0 : e = 0
      · subst e0
        refine ev_pos (by first | trivial | rfl) ?_
        simp only at hl
        obtain ⟨_, v, hv⟩ := parse_val h1 l1
        have hsm := parse_small h1
        have f1 := eval_f hl (by omega) hsm hv
        have hb := blank_parse h1 (by omega)
        have k1 : 2 + a0.size ≤ 9223372036854775807 := by omega
        have k2 : ((⟨#[32, 9]⟩ : ByteArray) ++ a0).size + 1 ≤ 9223372036854775807 := by rw [ByteArray.size_append]; show 2 + a0.size + 1 ≤ _; omega
        have k3 : 1 + a0.size ≤ 9223372036854775807 := by omega
        have k4 : ((⟨#[40]⟩ : ByteArray) ++ a0).size + 1 ≤ 9223372036854775807 := by rw [ByteArray.size_append]; show 1 + a0.size + 1 ≤ _; omega
        simp only [f1, Option.bind_some]
        refine ev_pos k1 (ev_pos k2 ?_)
        simp only [hb, Option.bind_some]
        refine ev_pos (by first | trivial | rfl) (ev_pos (by first | trivial | rfl) (ev_call (same_self X (by omega)) ?_))
        refine Ev.step (fun _ => rfl) ?_
        simp only [seichelaw13_ExprMeans.j1]
        refine ev_neg (by simp) (ev_pos k3 (ev_pos k4 ?_))
        rcases inB_parse h1 (by omega) with hi | hi
        · have hi' : expr_Parse.f (((⟨#[40]⟩ : ByteArray) ++ a0) ++ (⟨#[41]⟩ : ByteArray)) = some (X, 0) := hi
          simp only [hi', Option.bind_some, f1]
          refine ev_neg (by omega) (ev_pos (by first | trivial | rfl) (ev_pos (by first | trivial | rfl) (ev_pos (by simp) (ev_call (same_self X (by omega)) (Ev.now _)))))
        · have hi' : expr_Parse.f (((⟨#[40]⟩ : ByteArray) ++ a0) ++ (⟨#[41]⟩ : ByteArray)) = some ([], 8) := hi
          simp only [hi', Option.bind_some]
          exact ev_pos (by first | trivial | rfl) (Ev.now _)
      · exact ev_neg e0 (Ev.now _)
end Go.Proofs.Ytcpemjolabofnaa.Fr
