/- DiskFull. -/
import Derived.Test.YtoedkemjidgbeaaDkX
import Derived.Test.YtoedkemjidgbeaaDkNa
namespace Go.Proofs.Ytoedkemjidgbeaa.Dk
open Go Go.RowKit Go.Proofs.YtoedkemjidgbeaaW.PrintWords Go.Proofs.YtoedkemjidgbeaaW.PrintLast Go.Proofs.YtoedkemjidgbeaaW.PrintMore Go.Proofs.YtoedkemjidgbeaaMy Go.Proofs.Ytoedkemjidgbeaa Go.Proofs.YtoedkemjidgbeaaPw Go.Proofs.Ytoedkemjidgbeaa.PAll
attribute [local go_sem] max2_m min2_m max_two min_two
set_option linter.unusedVariables false
set_option linter.unusedSimpArgs false
abbrev FD (l : List Fl) (acts room : Int) : DS := ⟨l, room, false, acts, 0, 0, false⟩
abbrev zs (n : Nat) : List Int := List.replicate n 0
theorem zs_byt (n : Nat) : ∀ x ∈ zs n, 0 ≤ x ∧ x ≤ 255 := fun x hx => by rw [(List.mem_replicate.1 hx).2]; decide
theorem append_full {d : DS} {s : ByteArray} {xs : List Int} (hr : d.ready s = 0) (hl : d.free < (xs.length : Int)) : d.append s xs = (6, d) := by
  unfold DS.append
  rw [if_neg (fun h => h hr), if_pos hl]
section
variable {m q : Nat}
theorem fu0 (h : m + q ≤ 4096) : new ((m + q : Nat) : Int) = FD [] 0 ((m + q : Nat) : Int) := by
  unfold new
  rw [show min (max ((m + q : Nat) : Int) 0) 1048576 = ((m + q : Nat) : Int) by omega]
theorem fu1 : (FD [] 0 ((m + q : Nat) : Int)).append aN (zs m) = (0, FD [⟨aN, zs m, 0⟩] 1 ((m + q : Nat) : Int)) := by
  rw [append_ok (by kernel_rfl) (by unfold DS.free sizes; simp only [List.map_nil, List.sum_nil, List.length_replicate]; omega) (by kernel_rfl)]
  rfl
theorem fu_free1 : (FD [⟨aN, zs m, 0⟩] 1 ((m + q : Nat) : Int)).free = (q : Int) := by
  unfold DS.free sizes
  simp only [List.map_cons, List.map_nil, List.sum_cons, List.sum_nil, List.length_replicate]
  omega
theorem fu2 : (FD [⟨aN, zs m, 0⟩] 1 ((m + q : Nat) : Int)).append bN (zs (q + 1)) = (6, FD [⟨aN, zs m, 0⟩] 1 ((m + q : Nat) : Int)) :=
  append_full (by kernel_rfl) (by rw [fu_free1, List.length_replicate]; omega)
theorem fu3 : (FD [⟨aN, zs m, 0⟩] 1 ((m + q : Nat) : Int)).append bN (zs q) = (0, FD [⟨aN, zs m, 0⟩, ⟨bN, zs q, 0⟩] 2 ((m + q : Nat) : Int)) := by
  rw [append_ok (by kernel_rfl) (by rw [fu_free1, List.length_replicate]; omega) (by kernel_rfl)]
  kernel_rfl
theorem fu_free2 (a : Int) : (FD [⟨aN, zs m, 0⟩, ⟨bN, zs q, 0⟩] a ((m + q : Nat) : Int)).free = 0 := by
  unfold DS.free sizes
  simp only [List.map_cons, List.map_nil, List.sum_cons, List.sum_nil, List.length_replicate]
  omega
theorem fu4 : (FD [⟨aN, zs m, 0⟩, ⟨bN, zs q, 0⟩] 2 ((m + q : Nat) : Int)).append aN [] = (0, FD [⟨aN, zs m, 0⟩, ⟨bN, zs q, 0⟩] 3 ((m + q : Nat) : Int)) := by
  rw [append_ok (by kernel_rfl) (by rw [fu_free2]; decide) (by kernel_rfl)]
  have e : ((FD [⟨aN, zs m, 0⟩, ⟨bN, zs q, 0⟩] 2 ((m + q : Nat) : Int)).act.put { (FD [⟨aN, zs m, 0⟩, ⟨bN, zs q, 0⟩] 2 ((m + q : Nat) : Int)).fileOr aN with b := ((FD [⟨aN, zs m, 0⟩, ⟨bN, zs q, 0⟩] 2 ((m + q : Nat) : Int)).fileOr aN).b ++ [] }) = FD [⟨aN, zs m ++ [], 0⟩, ⟨bN, zs q, 0⟩] 3 ((m + q : Nat) : Int) := by kernel_rfl
  rw [e, List.append_nil]
theorem fu5 : (FD [⟨aN, zs m, 0⟩, ⟨bN, zs q, 0⟩] 3 ((m + q : Nat) : Int)).append aN [1] = (6, FD [⟨aN, zs m, 0⟩, ⟨bN, zs q, 0⟩] 3 ((m + q : Nat) : Int)) :=
  append_full (by kernel_rfl) (by rw [fu_free2]; decide)
theorem fup0 (h : m + q ≤ 4096) : (FD [] 0 ((m + q : Nat) : Int)).Up 0 := fu0 h ▸ DS.Up.new _
theorem fup1 (h : m + q ≤ 4096) : (FD [⟨aN, zs m, 0⟩] 1 ((m + q : Nat) : Int)).Up 1 := by
  have := (fup0 h).append aN (zs_byt m)
  rw [fu1] at this
  exact this
theorem fup2 (h : m + q ≤ 4096) : (FD [⟨aN, zs m, 0⟩, ⟨bN, zs q, 0⟩] 2 ((m + q : Nat) : Int)).Up 2 := by
  have := (fup1 h).append bN (zs_byt q)
  rw [fu3] at this
  exact this
theorem fup3 (h : m + q ≤ 4096) : (FD [⟨aN, zs m, 0⟩, ⟨bN, zs q, 0⟩] 3 ((m + q : Nat) : Int)).Up 3 := by
  have := (fup2 h).append aN (xs := []) (fun x hx => (by cases hx))
  rw [fu4] at this
  exact this
end
section
variable {w W : World} {S : Nat → Prop} {g : Nat} {m q : Nat} {d : DS}
theorem made_row (h : St w S W g d) (n : Nat) (hn : n ≤ 9223372036854775807) : Row S (W.alloc (.cells (madeCells #[.int .u8 0] n) 5)) (some ⟨W.heap.size, 0, none⟩) n (zs n) := by
  have h2 := own_made W W.heap.size 5 .u8 n (Nat.le_refl _) hn
  have h3 : (W.alloc (.cells (madeCells #[.int .u8 0] n) 5)).ownsRow W.heap.size 5 1 (.slice (some ⟨W.heap.size, 0, none⟩) n n) (zs n).length (nums .u8 (zs n)) := by rw [List.length_replicate]; exact h2
  exact Row.of (Kd.R_of_own h3 (ok := fun _ => True) (fun _ _ => trivial)) h.dev.hi
abbrev mk (W : World) (n : Nat) : World := W.alloc (.cells (madeCells #[.int .u8 0] n) 5)
theorem fc1 (hm : m + q ≤ 4096) (h : St w S W g (FD [] 0 ((m + q : Nat) : Int))) : Calls Try.prog 12 #[.pointer (some ⟨g, 0, none⟩), .string ⟨#[97]⟩, .slice (some ⟨W.heap.size, 0, none⟩) m m] (mk W m) fun e W' => ∃ S', e = .returned (.int .i64 0) ∧ St w S' W' g (FD [⟨aN, zs m, 0⟩] 1 ((m + q : Nat) : Int)) := by
  refine (Append_S (s := aN) (h.alloc _) (fup0 hm) (by decide) (made_row h m (by omega)) (by omega) (zs_byt m) fu1).mono ?_
  rintro e W' ⟨S', he, h2, _⟩
  exact ⟨S', he, h2⟩
theorem fc2 (hm : m + q ≤ 4096) (h : St w S W g (FD [⟨aN, zs m, 0⟩] 1 ((m + q : Nat) : Int))) : Calls Try.prog 12 #[.pointer (some ⟨g, 0, none⟩), .string ⟨#[98]⟩, .slice (some ⟨W.heap.size, 0, none⟩) (q + 1) (q + 1)] (mk W (q + 1)) fun e W' => ∃ S', e = .returned (.int .i64 6) ∧ St w S' W' g (FD [⟨aN, zs m, 0⟩] 1 ((m + q : Nat) : Int)) := by
  refine (Append_S (s := bN) (h.alloc _) (fup1 hm) (by decide) (made_row h (q + 1) (by omega)) (by omega) (zs_byt (q + 1)) fu2).mono ?_
  rintro e W' ⟨S', he, h2, _⟩
  exact ⟨S', he, h2⟩
theorem fc3 (hm : m + q ≤ 4096) (h : St w S W g (FD [⟨aN, zs m, 0⟩] 1 ((m + q : Nat) : Int))) : Calls Try.prog 12 #[.pointer (some ⟨g, 0, none⟩), .string ⟨#[98]⟩, .slice (some ⟨W.heap.size, 0, none⟩) q q] (mk W q) fun e W' => ∃ S', e = .returned (.int .i64 0) ∧ St w S' W' g (FD [⟨aN, zs m, 0⟩, ⟨bN, zs q, 0⟩] 2 ((m + q : Nat) : Int)) := by
  refine (Append_S (s := bN) (h.alloc _) (fup1 hm) (by decide) (made_row h q (by omega)) (by omega) (zs_byt q) fu3).mono ?_
  rintro e W' ⟨S', he, h2, _⟩
  exact ⟨S', he, h2⟩
theorem fc4 (hm : m + q ≤ 4096) (h : St w S W g (FD [⟨aN, zs m, 0⟩, ⟨bN, zs q, 0⟩] 2 ((m + q : Nat) : Int))) : Calls Try.prog 12 #[.pointer (some ⟨g, 0, none⟩), .string ⟨#[97]⟩, .slice none 0 0] (W) fun e W' => ∃ S', e = .returned (.int .i64 0) ∧ St w S' W' g (FD [⟨aN, zs m, 0⟩, ⟨bN, zs q, 0⟩] 3 ((m + q : Nat) : Int)) := by
  refine (Append_S (s := aN) h (fup2 hm) (by decide) Row.none_ (by decide) (fun x hx => (by cases hx)) fu4).mono ?_
  rintro e W' ⟨S', he, h2, _⟩
  exact ⟨S', he, h2⟩
theorem fc5 (hm : m + q ≤ 4096) (h : St w S W g (FD [⟨aN, zs m, 0⟩, ⟨bN, zs q, 0⟩] 3 ((m + q : Nat) : Int))) : Calls Try.prog 12 #[.pointer (some ⟨g, 0, none⟩), .string ⟨#[97]⟩, .slice (some ⟨W.heap.size, 0, none⟩) 1 1] (W.alloc (.cells #[.int .u8 1] 5)) fun e W' => ∃ S', e = .returned (.int .i64 6) ∧ St w S' W' g (FD [⟨aN, zs m, 0⟩, ⟨bN, zs q, 0⟩] 3 ((m + q : Nat) : Int)) := by
  refine (Append_S (s := aN) (h.alloc (.cells #[.int .u8 1] 5)) (fup3 hm) (by decide) (lit_row h [1] (by decide)) (by decide) (ab_byt [1] (by decide)) fu5).mono ?_
  rintro e W' ⟨S', he, h2, _⟩
  exact ⟨S', he, h2⟩
theorem fcn (hm : m + q ≤ 4096) (h : St w S W g (FD [⟨aN, zs m, 0⟩] 1 ((m + q : Nat) : Int))) : Calls Try.prog 21 #[.pointer (some ⟨g, 0, none⟩)] W fun e W' => ∃ A c, e = .returned (.slice A 1 c) ∧ St w S W' g (FD [⟨aN, zs m, 0⟩] 1 ((m + q : Nat) : Int)) := by
  obtain ⟨mb, n, D, bl, vl, hd⟩ := h.dev.at_
  refine (Names_Q hd (by show (1 : Int) ≤ 1000000000000; decide)).mono ?_
  rintro e W' ⟨v, rfl, hr, hb⟩
  obtain ⟨A, c, ev⟩ := Kd.R_slice hr
  have hl : (DS.names (FD [⟨aN, zs m, 0⟩] 1 ((m + q : Nat) : Int))).length = 1 := by unfold DS.names nmL; rw [List.length_map, List.length_mergeSort]; rfl
  rw [hl] at ev
  subst ev
  exact ⟨A, c, rfl, h.below hb⟩
theorem fcf (hm : m + q ≤ 4096) (h : St w S W g (FD [⟨aN, zs m, 0⟩, ⟨bN, zs q, 0⟩] 2 ((m + q : Nat) : Int))) : Calls Try.prog 22 #[.pointer (some ⟨g, 0, none⟩)] W fun e W' => e = .returned (.int .i64 0) ∧ St w S W' g (FD [⟨aN, zs m, 0⟩, ⟨bN, zs q, 0⟩] 2 ((m + q : Nat) : Int)) := by
  refine (Free_D h.dev (fup2 hm)).mono ?_
  rw [fu_free2]
  rintro e W' ⟨rfl, h2, h3⟩
  exact ⟨rfl, h.below h3⟩
theorem fu_new (w0 w : World) (hb : Below w0.heap.size w0 w) (hm : m + q ≤ 4096) : Calls Try.prog 11 #[.int .i64 ((m + q : Nat) : Int)] w fun e w' => ∃ g S, e = .returned (.pointer (some ⟨g, 0, none⟩)) ∧ St w0 S w' g (FD [] 0 ((m + q : Nat) : Int)) := by
  refine (New_S' w0 w hb _).mono ?_
  rintro e w' ⟨g, S, he, h, _, _⟩
  rw [fu0 hm] at h
  exact ⟨g, S, he, h⟩
theorem fw1 (hm : m + q ≤ 4096) : wrap64 (((m + q : Nat) : Int) - (m : Int)) = (q : Int) := by rw [w64 (by omega) (by omega)]; omega
theorem fw2 (hm : m + q ≤ 4096) : wrap64 ((q : Int) + 1) = ((q + 1 : Nat) : Int) := by rw [w64 (by omega) (by omega)]; omega
set_option maxHeartbeats 4000000 in
set_option maxRecDepth 100000 in
theorem full_a (w : World) (hm : m + q ≤ 4096) : Calls Try.prog 7 #[.int .i64 ((m + q : Nat) : Int), .int .i64 (m : Int)] w fun e w' => e = .returned (.bool true) ∧ Below w.heap.size w w' := by
  have HM := Aside0.mk hm
  have hw1 := fw1 hm
  have hw2 := fw2 hm
  have c1 : decide (((m + q : Nat) : Int) < 0) = false := decide_eq_false (by omega)
  have c2 : decide ((4096 : Int) < ((m + q : Nat) : Int)) = false := decide_eq_false (by omega)
  have c3 : decide ((m : Int) < 0) = false := decide_eq_false (by omega)
  have c4 : decide (((m + q : Nat) : Int) < (m : Int)) = false := decide_eq_false (by omega)
  have mk1 := print_make (P := Try.prog) 22 5 .u8 1 Try.underlying22 infoB (by decide) m (by omega)
  have mk2 := print_make (P := Try.prog) 22 5 .u8 1 Try.underlying22 infoB (by decide) (q + 1) (by omega)
  have mk3 := print_make (P := Try.prog) 22 5 .u8 1 Try.underlying22 infoB (by decide) q (by omega)
  obtain ⟨r, hr⟩ : ∃ r : Int, r = ((m + q : Nat) : Int) := ⟨_, rfl⟩
  obtain ⟨q1, hq1⟩ : ∃ q1, q1 = q + 1 := ⟨_, rfl⟩
  rw [← hr] at hw1 c1 c2 c4 ⊢
  rw [← hq1] at hw2 mk2
  have HR := Aside0.mk hr
  have HQ := Aside0.mk hq1
  clear hm hr hq1
  go_enter Try.func7, Try.ntmps7
  go_wp2_with (first
    | (go_at_call 10; refine (alive_Q w).mono ?_; rintro e w1 ⟨rfl, hb⟩; have HA := Aside0.mk hb; clear hb)
    | (go_at_call 11; have hq := fu_new w w1 HA.out HM.out; rw [← HR.out] at hq; refine hq.mono ?_; clear hq; rintro e w2 ⟨g, S0, rfl, hs⟩; rw [HR.out] at hs; have H0 := Aside0.mk hs; clear hs HA)
    | (go_at_call 12; refine (fc1 HM.out H0.out).mono ?_; rintro e w3 ⟨S1, rfl, hs⟩; have H1 := Aside0.mk hs; clear hs H0)
    | (go_at_call 12; have hq := fc2 HM.out H1.out; rw [← HQ.out] at hq; refine hq.mono ?_; clear hq; rintro e w4 ⟨S2, rfl, hs⟩; have H2 := Aside0.mk hs; clear hs H1)
    | (go_at_call 21; refine (fcn HM.out H2.out).mono ?_; rintro e w5 ⟨A5, c5, rfl, hs⟩; have H3 := Aside0.mk hs; clear hs H2)
    | (go_at_call 12; refine (fc3 HM.out H3.out).mono ?_; rintro e w6 ⟨S4, rfl, hs⟩; have H4 := Aside0.mk hs; clear hs H3)
    | (go_at_call 22; refine (fcf HM.out H4.out).mono ?_; rintro e w7 ⟨rfl, hs⟩; have H5 := Aside0.mk hs; clear hs H4)
    | (go_at_call 12; refine (fc4 HM.out H5.out).mono ?_; rintro e w8 ⟨S6, rfl, hs⟩; have H6 := Aside0.mk hs; clear hs H5)
    | (go_at_call 12; refine (fc5 HM.out H6.out).mono ?_; rintro e w9 ⟨S7, rfl, hs⟩; have H7 := Aside0.mk hs; clear hs H6))
  go_ret
  exact ⟨by simp, H7.out.bel⟩
end
set_option maxHeartbeats 4000000 in
set_option maxRecDepth 100000 in
theorem full_l (w : World) (a0 a1 : Int) (h : a0 < 0) : Calls Try.prog 7 #[.int .i64 a0, .int .i64 a1] w fun e w' => e = .returned (.bool true) ∧ Below w.heap.size w w' := by
  have c1 : decide (a0 < 0) = true := decide_eq_true h
  clear h
  go_enter Try.func7, Try.ntmps7
  go_wp2_with (first | (go_at_call 10; refine (alive_Q w).mono ?_; rintro e w1 ⟨rfl, hb⟩))
  go_ret
  exact ⟨rfl, hb⟩
set_option maxHeartbeats 4000000 in
set_option maxRecDepth 100000 in
theorem full_m (w : World) (a0 a1 : Int) (h1 : 0 ≤ a0) (h : 4096 < a0) : Calls Try.prog 7 #[.int .i64 a0, .int .i64 a1] w fun e w' => e = .returned (.bool true) ∧ Below w.heap.size w w' := by
  have c1 : decide (a0 < 0) = false := decide_eq_false (by omega)
  have c2 : decide ((4096 : Int) < a0) = true := decide_eq_true h
  clear h h1
  go_enter Try.func7, Try.ntmps7
  go_wp2_with (first | (go_at_call 10; refine (alive_Q w).mono ?_; rintro e w1 ⟨rfl, hb⟩))
  go_ret
  exact ⟨rfl, hb⟩
set_option maxHeartbeats 4000000 in
set_option maxRecDepth 100000 in
theorem full_n (w : World) (a0 a1 : Int) (h1 : 0 ≤ a0) (h2 : a0 ≤ 4096) (h : a1 < 0) : Calls Try.prog 7 #[.int .i64 a0, .int .i64 a1] w fun e w' => e = .returned (.bool true) ∧ Below w.heap.size w w' := by
  have c1 : decide (a0 < 0) = false := decide_eq_false (by omega)
  have c2 : decide ((4096 : Int) < a0) = false := decide_eq_false (by omega)
  have c3 : decide (a1 < 0) = true := decide_eq_true h
  clear h h1 h2
  go_enter Try.func7, Try.ntmps7
  go_wp2_with (first | (go_at_call 10; refine (alive_Q w).mono ?_; rintro e w1 ⟨rfl, hb⟩))
  go_ret
  exact ⟨rfl, hb⟩
set_option maxHeartbeats 4000000 in
set_option maxRecDepth 100000 in
theorem full_o (w : World) (a0 a1 : Int) (h1 : 0 ≤ a0) (h2 : a0 ≤ 4096) (h3 : 0 ≤ a1) (h : a0 < a1) : Calls Try.prog 7 #[.int .i64 a0, .int .i64 a1] w fun e w' => e = .returned (.bool true) ∧ Below w.heap.size w w' := by
  have c1 : decide (a0 < 0) = false := decide_eq_false (by omega)
  have c2 : decide ((4096 : Int) < a0) = false := decide_eq_false (by omega)
  have c3 : decide (a1 < 0) = false := decide_eq_false (by omega)
  have c4 : decide (a0 < a1) = true := decide_eq_true h
  clear h h1 h2 h3
  go_enter Try.func7, Try.ntmps7
  go_wp2_with (first | (go_at_call 10; refine (alive_Q w).mono ?_; rintro e w1 ⟨rfl, hb⟩))
  go_ret
  exact ⟨rfl, hb⟩
theorem full_walk (a0 : Int) (a1 : Int) (w : World) (w0 : (Lit.int .i64 a0).wf = true) (w1 : (Lit.int .i64 a1).wf = true) :
    Calls Try.prog 7 #[.int .i64 a0, .int .i64 a1] w fun e w' => e = .returned (.bool true) ∧ Below w.heap.size w w' := by
  by_cases h1 : a0 < 0
  · exact full_l w a0 a1 h1
  by_cases h2 : 4096 < a0
  · exact full_m w a0 a1 (by omega) h2
  by_cases h3 : a1 < 0
  · exact full_n w a0 a1 (by omega) (by omega) h3
  by_cases h4 : a0 < a1
  · exact full_o w a0 a1 (by omega) (by omega) (by omega) h4
  obtain ⟨m, rfl⟩ := Int.eq_ofNat_of_zero_le (Int.not_lt.1 h3)
  obtain ⟨q, hq⟩ := Int.eq_ofNat_of_zero_le (show 0 ≤ a0 - (m : Int) by omega)
  have e : a0 = ((m + q : Nat) : Int) := by omega
  subst e
  exact full_a w (by omega)
end Go.Proofs.Ytoedkemjidgbeaa.Dk
