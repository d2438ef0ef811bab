/- Chapter 15 in plain Lean: the reference's answer; what names made of parts say; the four laws. -/
import Derived.Test.YtnpbgegllphfkaaDoorSuB
namespace Go.Proofs.YtnpbgegllphfkaaDoor.Su
open Go Go.RowKit Go.Proofs.YtnpbgegllphfkaaDoorW.PrintWords Go.Proofs.YtnpbgegllphfkaaDoorPw Go.Proofs.YtnpbgegllphfkaaDoor.PAll Go.Proofs.YtnpbgegllphfkaaDoor
theorem rj3_ev (w : List ByteArray) (hl : w.length ≤ 1099511627776) (x t : Bool) (hx : x = true → 2 ≤ w.length) :
    Ev (fun k => seicheref15_Of.j3 k t w (w.length : Int) x) (true, t, if x = true then (last1 w, E0) else if 2 ≤ w.length ∧ procB (last1 w) = true then (E0, last1 w) else (E0, E0)) := by
  refine Ev.step (fun _ => seicheref15_Of.j3.eq_2 ..) ?_
  by_cases h2 : 2 ≤ w.length
  · have e1 : wrap64 ((w.length : Int) - 1) = ((w.length - 1 : Nat) : Int) := by rw [w64 (by omega) (by omega)]; omega
    rw [e1, show rdOf ByteArray.empty w ((w.length - 1 : Nat) : Int) = last1 w from rfl]
    cases x with
    | true => exact ev_pos rfl (ev_pos (by omega) (ev_pos (by omega) (Ev.now _)))
    | false =>
      refine ev_neg (by decide) (ev_pos (by omega) (ev_pos (by omega) (ev_pos (by omega) (ev_call (rproc_ev _) ?_))))
      by_cases hp : procB (last1 w) = true
      · refine ev_pos hp (ev_ret ?_)
        rw [if_neg (by decide : ¬ false = true), if_pos ⟨h2, hp⟩]
      · refine ev_neg hp (ev_ret ?_)
        rw [if_neg (by decide : ¬ false = true), if_neg (fun h => hp h.2)]
  · cases x with
    | true => exact absurd (hx rfl) h2
    | false => exact ev_neg (by decide) (ev_neg (by omega) (ev_ret (by rw [if_neg (by decide), if_neg (fun h => h2 h.1)])))
theorem rj2_ev (w : List ByteArray) (hl : w.length ≤ 1099511627776) (x t : Bool) (hx : x = true → 3 ≤ w.length) :
    Ev (fun k => seicheref15_Of.j2 k t w (w.length : Int) x) (true, t, if x = true then (last2 w, last1 w) else if 2 ≤ w.length ∧ sysB (last1 w) = true then (last1 w, E0) else if 2 ≤ w.length ∧ procB (last1 w) = true then (E0, last1 w) else (E0, E0)) := by
  refine Ev.step (fun _ => seicheref15_Of.j2.eq_2 ..) ?_
  by_cases h2 : 2 ≤ w.length
  · have e1 : wrap64 ((w.length : Int) - 1) = ((w.length - 1 : Nat) : Int) := by rw [w64 (by omega) (by omega)]; omega
    have e2 : wrap64 ((w.length : Int) - 2) = ((w.length - 2 : Nat) : Int) := by rw [w64 (by omega) (by omega)]; omega
    rw [e1, e2, show rdOf ByteArray.empty w ((w.length - 1 : Nat) : Int) = last1 w from rfl, show rdOf ByteArray.empty w ((w.length - 2 : Nat) : Int) = last2 w from rfl]
    cases x with
    | true => exact ev_pos rfl (ev_pos (by omega) (ev_pos (by omega) (ev_pos (by omega) (ev_pos (by omega) (Ev.now _)))))
    | false =>
      refine ev_neg (by decide) (ev_pos (by omega) (ev_pos (by omega) (ev_pos (by omega) (ev_call (rsys_ev _) ?_))))
      rw [if_neg (by decide : ¬ false = true)]
      refine (congrArg (Ev _) ?_).mpr (rj3_ev w hl (sysB (last1 w)) t (fun _ => h2))
      by_cases hp : sysB (last1 w) = true
      · rw [if_pos ⟨h2, hp⟩, if_pos hp]
      · rw [if_neg (fun h => hp h.2), if_neg hp]
  · cases x with
    | true => have := hx rfl; omega
    | false =>
      refine ev_neg (by decide) (ev_neg (by omega) ?_)
      refine (congrArg (Ev _) ?_).mpr (rj3_ev w hl false t (fun h => by cases h))
      rw [if_neg (by decide), if_neg (fun h => h2 h.1), if_neg (by decide : ¬ false = true)]
theorem rj1_ev (l : List Int) (hb : Byt l) (hl : l.length ≤ 65536) (t : Bool) : Ev (fun k => seicheref15_Of.j1 k (strOfNums l) t) (true, t, wordsSpec ((cutI 95 l).map strOfNums)) := by
  have hc := cut_ev (strOfNums l) 95 (by rw [size_str]; omega)
  rw [bytes_str hb] at hc
  refine Ev.step (fun _ => seicheref15_Of.j1.eq_2 ..) (ev_call hc ?_)
  have hcl := cutI_length 95 l
  generalize hw : (cutI 95 l).map strOfNums = w
  have hwl : w.length = (cutI 95 l).length := by rw [← hw, List.length_map]
  have hj := fun (x : Bool) hx => rj2_ev w (by omega) x t hx
  unfold wordsSpec
  by_cases h3 : 3 ≤ w.length
  · have e1 : wrap64 ((w.length : Int) - 1) = ((w.length - 1 : Nat) : Int) := by rw [w64 (by omega) (by omega)]; omega
    have e2 : wrap64 ((w.length : Int) - 2) = ((w.length - 2 : Nat) : Int) := by rw [w64 (by omega) (by omega)]; omega
    rw [e1, e2, show rdOf ByteArray.empty w ((w.length - 1 : Nat) : Int) = last1 w from rfl, show rdOf ByteArray.empty w ((w.length - 2 : Nat) : Int) = last2 w from rfl]
    refine ev_pos (by omega) (ev_pos (by omega) (ev_pos (by omega) (ev_call (rsys_ev _) ?_)))
    by_cases hs2 : sysB (last2 w) = true
    · refine ev_pos hs2 (ev_pos (by omega) (ev_pos (by omega) (ev_call (rproc_ev _) ?_)))
      refine (congrArg (Ev _) ?_).mpr (hj (procB (last1 w)) (fun _ => h3))
      by_cases hp : procB (last1 w) = true
      · rw [if_pos ⟨h3, hs2, hp⟩, if_pos hp]
      · rw [if_neg (fun h => hp h.2.2), if_neg hp]
    · refine ev_neg hs2 ?_
      refine (congrArg (Ev _) ?_).mpr (hj false (fun h => by cases h))
      rw [if_neg (fun h => hs2 h.2.1), if_neg (by decide : ¬ false = true)]
  · refine ev_neg (by omega) ?_
    refine (congrArg (Ev _) ?_).mpr (hj false (fun h => by cases h))
    rw [if_neg (fun h => h3 h.1), if_neg (by decide : ¬ false = true)]
theorem ends_len {l p : List Int} (h : endsI l p = true) : p.length ≤ l.length := by
  obtain ⟨t, rfl⟩ := (endsI_iff l p).1 h
  simp
theorem rj0_ev (s : ByteArray) (hs : s.size ≤ 65536) (h : endsI (bytesOf s) goE = true) : Ev (fun k => seicheref15_Of.j0 k s false) (true, endsI (less (bytesOf s) goE) testE, wordsSpec ((cutI 95 (less (less (bytesOf s) goE) testE)).map strOfNums)) := by
  have h3 : 3 ≤ s.size := by have := ends_len h; rw [bytesOf_length] at this; exact this
  have hb : Byt (less (bytesOf s) goE) := byt_less (byt_bytesOf s)
  have e3 : wrap64 ((s.size : Int) - 3) = ((s.size - 3 : Nat) : Int) := by rw [w64 (by omega) (by omega)]; omega
  have ex : s.extract 0 (((s.size - 3 : Nat) : Int)).toNat = strOfNums (less (bytesOf s) goE) := by
    rw [Int.toNat_natCast, less_str, less, if_pos h, bytesOf_length]
    rfl
  have hll : (less (bytesOf s) goE).length ≤ 65536 := by have := less_length (bytesOf s) goE; rw [bytesOf_length] at this; omega
  have hE : seicheref15_Ends.f (strOfNums (less (bytesOf s) goE)) ⟨#[95, 116, 101, 115, 116]⟩ = some (endsI (less (bytesOf s) goE) testE) := by
    have := ends_f (strOfNums (less (bytesOf s) goE)) ⟨#[95, 116, 101, 115, 116]⟩ (by rw [size_str]; omega)
    rw [bytes_str hb] at this
    exact this
  refine Ev.step (fun _ => seicheref15_Of.j0.eq_2 ..) (ev_neg (by decide) ?_)
  rw [e3, ex]
  refine ev_pos (by omega) (ev_pos (by omega) ?_)
  simp only [hE, Option.bind_some]
  generalize hb' : less (bytesOf s) goE = b at *
  by_cases ht : endsI b testE = true
  · have h5 := ends_len ht
    have h5' : 5 ≤ b.length := h5
    have e5 : wrap64 (((strOfNums b).size : Int) - 5) = ((b.length - 5 : Nat) : Int) := by rw [size_str, w64 (by omega) (by omega)]; omega
    rw [e5]
    refine ev_pos ht (ev_pos (by omega) (ev_pos (by rw [size_str]; omega) ?_))
    have ey : (strOfNums b).extract 0 (((b.length - 5 : Nat) : Int)).toNat = strOfNums (less b testE) := by
      rw [Int.toNat_natCast, less_str, bytes_str hb, less, if_pos ht]
      rfl
    rw [ey]
    have := less_length b testE
    exact rj1_ev (less b testE) (byt_less hb) (by omega) _
  · refine ev_neg ht ?_
    rw [less, if_neg ht]
    exact rj1_ev b hb hll _
theorem begI_bt (s : ByteArray) (h : 0 < s.size) (c : Int) : begI (bytesOf s) c = (bt s 0 == c) := by
  have hd := drop_bytes s 0 h
  rw [List.drop_zero] at hd
  unfold begI
  rw [hd, List.head?_cons, Bool.eq_iff_iff, decide_eq_true_eq, beq_iff_eq, Option.some.injEq]
  rfl
theorem rof_ev (s : ByteArray) (hs : s.size ≤ 65536) : Ev (fun k => seicheref15_Of.f k s) (ofSpec (bytesOf s)) := by
  have hE : seicheref15_Ends.f s ⟨#[46, 103, 111]⟩ = some (endsI (bytesOf s) goE) := ends_f s ⟨#[46, 103, 111]⟩ (by omega)
  unfold seicheref15_Of.f
  simp only [hE, Option.bind_some]
  have hbad : Ev (fun k => seicheref15_Of.j0 k s true) (false, false, E0, E0) := Ev.step (fun _ => seicheref15_Of.j0.eq_2 ..) (ev_pos rfl (Ev.now _))
  unfold ofSpec good
  by_cases h0 : endsI (bytesOf s) goE = true
  · have h3 : 3 ≤ s.size := by have := ends_len h0; rw [bytesOf_length] at this; exact this
    have hgood := rj0_ev s hs h0
    have b1 := begI_bt s (by omega) 95
    have b2 := begI_bt s (by omega) 46
    rw [h0]
    refine ev_pos rfl (ev_pos (by omega) ?_)
    by_cases h1 : bt s 0 = 95
    · rw [b1, beq_iff_eq.2 h1]
      exact ev_pos h1 hbad
    · refine ev_neg h1 ?_
      rw [b1, beq_eq_false_iff_ne.2 h1, b2]
      cases h2 : bt s 0 == 46 with
      | true => exact hbad
      | false => exact hgood
  · rw [Bool.not_eq_true] at h0
    rw [h0]
    exact ev_neg (by decide) hbad
theorem SuffixOf_ev (s : ByteArray) : Ev (fun k => seichelaw15_SuffixOf.f k s) true := by
  refine ev_call alive_ev (ev_pos rfl ?_)
  by_cases h : s.size ≤ 1024
  · refine ev_neg (by omega) (ev_call (rof_ev s (by omega)) (ev_call (of_ev s (by omega)) (ev_ret ?_)))
    simp
  · exact ev_pos (by omega) (Ev.now true)
end Go.Proofs.YtnpbgegllphfkaaDoor.Su
