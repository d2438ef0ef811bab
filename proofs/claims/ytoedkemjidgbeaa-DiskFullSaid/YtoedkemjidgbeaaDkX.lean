/- DiskCuts. -/
import Derived.Test.YtoedkemjidgbeaaDkW
namespace Go.Proofs.Ytoedkemjidgbeaa.Dk
open Go Go.RowKit Go.Proofs.YtoedkemjidgbeaaW.PrintWords Go.Proofs.YtoedkemjidgbeaaW.PrintLast Go.Proofs.YtoedkemjidgbeaaW.PrintMore Go.Proofs.YtoedkemjidgbeaaMy Go.Proofs.Ytoedkemjidgbeaa Go.Proofs.YtoedkemjidgbeaaPw Go.Proofs.Ytoedkemjidgbeaa.PAll
attribute [local go_sem] max2_m min2_m max_two min_two
set_option linter.unusedVariables false
set_option linter.unusedSimpArgs false
section
variable (xs : List Int) (n keep : Int) (s : Nat) (a : Int)
theorem cu1 (h : xs.length ≤ 4096) : (new 1048576).append fN xs = (0, BD [⟨fN, xs, 0⟩] false 1 0 0 false) := by
  rw [append_ok (by kernel_rfl) (show (xs.length : Int) ≤ 1048576 by omega) (by kernel_rfl)]
  rfl
theorem cu2 (h : xs.length ≤ 4096) : (BD [⟨fN, xs, 0⟩] false 1 0 0 false).append gN xs = (0, BD [⟨fN, xs, 0⟩, ⟨gN, xs, 0⟩] false 2 0 0 false) := by
  rw [append_ok (by kernel_rfl) (by unfold DS.free sizes; simp only [List.map_cons, List.map_nil, List.sum_cons, List.sum_nil]; omega) (by kernel_rfl)]
  kernel_rfl
theorem cu3 : (BD [⟨fN, xs, 0⟩, ⟨gN, xs, 0⟩] false 2 0 0 false).sync fN = (0, BD [⟨fN, xs, xs.length⟩, ⟨gN, xs, 0⟩] false 3 0 0 false) := by
  rw [sync_ok (by kernel_rfl) (by kernel_rfl)]
  kernel_rfl
abbrev cuF : Fl := ⟨fN, xs.take n.toNat, min s (xs.take n.toNat).length⟩
theorem cu4t : (BD [⟨fN, xs, s⟩, ⟨gN, xs, 0⟩] false a 0 0 false).there fN = 0 := by kernel_rfl
theorem cu4 (hn : 0 ≤ n) : (BD [⟨fN, xs, s⟩, ⟨gN, xs, 0⟩] false a 0 0 false).cut fN n = (0, BD [cuF xs n s, ⟨gN, xs, 0⟩] false (a + 1) 0 0 false) := by
  unfold DS.cut
  rw [if_neg (fun h => h (cu4t xs s a)), if_neg (by omega), fall_no (by kernel_rfl)]
  kernel_rfl
theorem cu5t (F : List Int) (q : Nat) : (BD [⟨fN, F, q⟩, ⟨gN, xs, 0⟩] false a 0 0 false).there gN = 0 := by kernel_rfl
theorem cu5' (F : List Int) (q : Nat) : (BD [⟨fN, F, q⟩, ⟨gN, xs, 0⟩] false a 0 0 false).remove gN = (0, BD [⟨fN, F, q⟩] false (a + 1) 0 0 false) := by
  unfold DS.remove
  rw [if_neg (fun h => h (cu5t xs a F q)), fall_no (by kernel_rfl)]
  kernel_rfl
theorem cu5 : (BD [cuF xs n s, ⟨gN, xs, 0⟩] false (a + 1) 0 0 false).remove gN = (0, BD [cuF xs n s] false (a + 1 + 1) 0 0 false) := cu5' xs (a + 1) (xs.take n.toNat) (min s (xs.take n.toNat).length)
abbrev cuL : Fl := lose1 keep false (cuF xs n s)
theorem cu6 : (BD [cuF xs n s] false (a + 1 + 1) 0 0 false).off keep false = BD [cuL xs n keep s] true (a + 1 + 1) 0 0 false := rfl
theorem cu7 : (BD [cuL xs n keep s] true (a + 1 + 1) 0 0 false).on = BD [cuL xs n keep s] false (a + 1 + 1) 0 0 false := rfl
theorem cu8' (F : List Int) (q : Nat) : (BD [⟨fN, F, q⟩] false a 0 0 false).read fN = (F, 0) := read_ok (f := ⟨fN, F, q⟩) (by kernel_rfl) (by kernel_rfl)
theorem cu8 : (BD [cuL xs n keep s] false (a + 1 + 1) 0 0 false).read fN = (loseB keep false (cuF xs n s), 0) := cu8' (a + 1 + 1) _ _
theorem cu9' (F : List Int) (q : Nat) : (BD [⟨fN, F, q⟩] false a 0 0 false).read gN = ([], 5) := read_no (by kernel_rfl) (by kernel_rfl)
theorem cu9 : (BD [cuL xs n keep s] false (a + 1 + 1) 0 0 false).read gN = ([], 5) := cu9' (a + 1 + 1) _ _
theorem cuB : loseB keep false (cuF xs n s) = (xs.take n.toNat).take (min s (xs.take n.toNat).length + kept keep (cuF xs n s)) := if_neg (by simp)
/-- What is left: so many bytes. -/
theorem cu_want (hn : 0 ≤ n) (hl : n ≤ xs.length) (want : Int) (hw : want = (if s = 0 ∧ keep < n then max keep 0 else n)) (hs : s = 0 ∨ s = xs.length) (h0 : s = 0 → xs.length = 0 ∨ True) : loseB keep false (cuF xs n s) = xs.take want.toNat := by
  have hk : kept keep (cuF xs n s) = (min (max keep 0) (((xs.take n.toNat).length : Int) - (min s (xs.take n.toNat).length : Nat))).toNat := rfl
  rw [cuB, hk, List.take_take, List.length_take]
  congr 1
  subst hw
  split <;> omega
end
theorem cup1 {xs : List Int} (h : xs.length ≤ 4096) (hb : ∀ x ∈ xs, 0 ≤ x ∧ x ≤ 255) : (BD [⟨fN, xs, 0⟩] false 1 0 0 false).Up 1 := by
  have := (DS.Up.new 1048576).append fN hb
  rw [cu1 xs h] at this
  exact this
theorem cup2 {xs : List Int} (h : xs.length ≤ 4096) (hb : ∀ x ∈ xs, 0 ≤ x ∧ x ≤ 255) : (BD [⟨fN, xs, 0⟩, ⟨gN, xs, 0⟩] false 2 0 0 false).Up 3 := by
  have := (cup1 h hb).append gN hb
  rw [cu2 xs h] at this
  exact this.more
theorem cup3 {xs : List Int} (h : xs.length ≤ 4096) (hb : ∀ x ∈ xs, 0 ≤ x ∧ x ≤ 255) : (BD [⟨fN, xs, xs.length⟩, ⟨gN, xs, 0⟩] false 3 0 0 false).Up 3 := by
  have := (DS.Up.new 1048576).append fN hb
  rw [cu1 xs h] at this
  have := this.append gN hb
  rw [cu2 xs h] at this
  have := this.sync fN
  rw [cu3 xs] at this
  exact this
theorem cup4 {xs : List Int} {s : Nat} {a n : Int} (hn : 0 ≤ n) (hu : (BD [⟨fN, xs, s⟩, ⟨gN, xs, 0⟩] false a 0 0 false).Up 3) : (BD [cuF xs n s, ⟨gN, xs, 0⟩] false (a + 1) 0 0 false).Up 4 := by
  have := hu.cut fN n
  rw [cu4 xs n s a hn] at this
  exact this
theorem cup5 {xs : List Int} {s : Nat} {a n : Int} (hn : 0 ≤ n) (hu : (BD [⟨fN, xs, s⟩, ⟨gN, xs, 0⟩] false a 0 0 false).Up 3) : (BD [cuF xs n s] false (a + 1 + 1) 0 0 false).Up 5 := by
  have := (cup4 hn hu).remove gN
  rw [cu5 xs n s a] at this
  exact this
theorem cup6 {xs : List Int} {s : Nat} {a n keep : Int} (hn : 0 ≤ n) (hu : (BD [⟨fN, xs, s⟩, ⟨gN, xs, 0⟩] false a 0 0 false).Up 3) : (BD [cuL xs n keep s] false (a + 1 + 1) 0 0 false).Up 5 := ((cup5 hn hu).off keep false).on
section
variable {w W : World} {S : Nat → Prop} {g : Nat} {A0 : Option Addr} {c0 : Nat} {l0 : List Int} {n keep : Int} {s : Nat} {a : Int}
theorem cc1 (hl : l0.length ≤ 4096) (hb : ∀ x ∈ l0, 0 ≤ x ∧ x ≤ 255) (hC : bK.C w A0 l0.length l0) (h : St w S W g (new 1048576)) : Calls Try.prog 12 #[.pointer (some ⟨g, 0, none⟩), .string ⟨#[102]⟩, .slice A0 l0.length c0] W fun e W' => ∃ S', e = .returned (.int .i64 0) ∧ St w S' W' g (BD [⟨fN, l0, 0⟩] false 1 0 0 false) := by
  refine (Append_S (s := fN) h (DS.Up.new 1048576) (by decide) (Row.arg hC h) (by omega) hb (cu1 l0 hl)).mono ?_
  rintro e W' ⟨S', he, h2, _⟩
  exact ⟨S', he, h2⟩
theorem cc2 (hl : l0.length ≤ 4096) (hb : ∀ x ∈ l0, 0 ≤ x ∧ x ≤ 255) (hC : bK.C w A0 l0.length l0) (h : St w S W g (BD [⟨fN, l0, 0⟩] false 1 0 0 false)) : Calls Try.prog 12 #[.pointer (some ⟨g, 0, none⟩), .string ⟨#[103]⟩, .slice A0 l0.length c0] W fun e W' => ∃ S', e = .returned (.int .i64 0) ∧ St w S' W' g (BD [⟨fN, l0, 0⟩, ⟨gN, l0, 0⟩] false 2 0 0 false) := by
  refine (Append_S (s := gN) h (cup1 hl hb) (by decide) (Row.arg hC h) (by omega) hb (cu2 l0 hl)).mono ?_
  rintro e W' ⟨S', he, h2, _⟩
  exact ⟨S', he, h2⟩
theorem cc3 (hl : l0.length ≤ 4096) (hb : ∀ x ∈ l0, 0 ≤ x ∧ x ≤ 255) (h : St w S W g (BD [⟨fN, l0, 0⟩, ⟨gN, l0, 0⟩] false 2 0 0 false)) : Calls Try.prog 15 #[.pointer (some ⟨g, 0, none⟩), .string ⟨#[102]⟩] W fun e W' => ∃ S', e = .returned (.int .i64 0) ∧ St w S' W' g (BD [⟨fN, l0, l0.length⟩, ⟨gN, l0, 0⟩] false 3 0 0 false) := by
  refine (Sync_S (s := fN) h (cup2 hl hb) (by decide) (cu3 l0)).mono ?_
  rintro e W' ⟨S', he, h2, _⟩
  exact ⟨S', he, h2⟩
theorem cc4 (hn : 0 ≤ n) (hu : (BD [⟨fN, l0, s⟩, ⟨gN, l0, 0⟩] false a 0 0 false).Up 3) (h : St w S W g (BD [⟨fN, l0, s⟩, ⟨gN, l0, 0⟩] false a 0 0 false)) : Calls Try.prog 19 #[.pointer (some ⟨g, 0, none⟩), .string ⟨#[102]⟩, .int .i64 n] W fun e W' => ∃ S', e = .returned (.int .i64 0) ∧ St w S' W' g (BD [cuF l0 n s, ⟨gN, l0, 0⟩] false (a + 1) 0 0 false) := by
  refine (Cut_S (s := fN) h hu (by decide) (cu4 l0 n s a hn)).mono ?_
  rintro e W' ⟨S', he, h2, _⟩
  exact ⟨S', he, h2⟩
theorem cc5 (hn : 0 ≤ n) (hu : (BD [⟨fN, l0, s⟩, ⟨gN, l0, 0⟩] false a 0 0 false).Up 3) (h : St w S W g (BD [cuF l0 n s, ⟨gN, l0, 0⟩] false (a + 1) 0 0 false)) : Calls Try.prog 20 #[.pointer (some ⟨g, 0, none⟩), .string ⟨#[103]⟩] W fun e W' => ∃ S', e = .returned (.int .i64 0) ∧ St w S' W' g (BD [cuF l0 n s] false (a + 1 + 1) 0 0 false) := by
  refine (Remove_S (s := gN) h (cup4 hn hu) (by decide) (cu5 l0 n s a)).mono ?_
  rintro e W' ⟨S', he, h2, _⟩
  exact ⟨S', he, h2⟩
theorem cc6 (hn : 0 ≤ n) (hu : (BD [⟨fN, l0, s⟩, ⟨gN, l0, 0⟩] false a 0 0 false).Up 3) (h : St w S W g (BD [cuF l0 n s] false (a + 1 + 1) 0 0 false)) : Calls Try.prog 16 #[.pointer (some ⟨g, 0, none⟩), .int .i64 keep, .bool false] W fun e W' => ∃ S', e = .returned (.tuple #[]) ∧ St w S' W' g (BD [cuL l0 n keep s] true (a + 1 + 1) 0 0 false) := by
  refine (Off_S h (cup5 hn hu) (cu6 l0 n keep s a)).mono ?_
  rintro e W' ⟨S', he, h2, _⟩
  exact ⟨S', he, h2⟩
theorem cc7  (h : St w S W g (BD [cuL l0 n keep s] true (a + 1 + 1) 0 0 false)) : Calls Try.prog 17 #[.pointer (some ⟨g, 0, none⟩)] W fun e W' => ∃ S', e = .returned (.tuple #[]) ∧ St w S' W' g (BD [cuL l0 n keep s] false (a + 1 + 1) 0 0 false) := by
  refine (On_S h (d' := BD [cuL l0 n keep s] false (a + 1 + 1) 0 0 false) rfl).mono ?_
  rintro e W' ⟨S', he, h2, _⟩
  exact ⟨S', he, h2⟩
theorem cc8 (hn : 0 ≤ n) (hu : (BD [⟨fN, l0, s⟩, ⟨gN, l0, 0⟩] false a 0 0 false).Up 3) {ys : List Int} (hy : loseB keep false (cuF l0 n s) = ys) (h : St w S W g (BD [cuL l0 n keep s] false (a + 1 + 1) 0 0 false)) : Calls Try.prog 13 #[.pointer (some ⟨g, 0, none⟩), .string ⟨#[102]⟩] W fun e W' => ∃ A c, e = .returned (.tuple #[.slice A ys.length c, .int .i64 0]) ∧ bK.C W' A ys.length ys ∧ St w S W' g (BD [cuL l0 n keep s] false (a + 1 + 1) 0 0 false) ∧ Below W.heap.size W W' := by
  subst hy
  refine (Read_S (s := fN) h (cup6 hn hu) (cu8 l0 n keep s a)).mono ?_
  rintro e W' ⟨A, m, c, he, hm, hr, hs, hb, hcv⟩
  subst hm
  exact ⟨A, c, he, (Kd.R_reads' hr).2.2, hs, hb⟩
theorem cc9 (hn : 0 ≤ n) (hu : (BD [⟨fN, l0, s⟩, ⟨gN, l0, 0⟩] false a 0 0 false).Up 3) (h : St w S W g (BD [cuL l0 n keep s] false (a + 1 + 1) 0 0 false)) : Calls Try.prog 13 #[.pointer (some ⟨g, 0, none⟩), .string ⟨#[103]⟩] W fun e W' => ∃ A m c, e = .returned (.tuple #[.slice A m c, .int .i64 5]) ∧ St w S W' g (BD [cuL l0 n keep s] false (a + 1 + 1) 0 0 false) ∧ Below W.heap.size W W' := by
  refine (Read_S (s := gN) h (cup6 hn hu) (cu9 l0 n keep s a)).mono ?_
  rintro e W' ⟨A, m, c, he, hm, hr, hs, hb, hcv⟩
  exact ⟨A, m, c, he, hs, hb⟩
set_option maxHeartbeats 4000000 in
set_option maxRecDepth 100000 in
theorem cut_l (w : World) (b : Bool) (h : 4096 < l0.length) : Calls Try.prog 6 #[.slice A0 l0.length c0, .int .i64 n, .bool b, .int .i64 keep] w fun e w' => e = .returned (.bool true) ∧ Below w.heap.size w w' := by
  have c1b : decide ((4096 : Int) < (l0.length : Int)) = true := decide_eq_true (by omega)
  clear h
  obtain ⟨m0, hm0⟩ : ∃ m, m = l0.length := ⟨_, rfl⟩
  rw [← hm0] at c1b ⊢
  clear hm0
  go_enter Try.func6, Try.ntmps6
  go_wp2_with (first | (go_at_call 10; refine (alive_Q w).mono ?_; rintro e w1 ⟨rfl, hb⟩))
  go_ret
  exact ⟨rfl, hb⟩
set_option maxHeartbeats 4000000 in
set_option maxRecDepth 100000 in
theorem cut_n (w : World) (b : Bool) (h1 : l0.length ≤ 4096) (h : n < 0) : Calls Try.prog 6 #[.slice A0 l0.length c0, .int .i64 n, .bool b, .int .i64 keep] w fun e w' => e = .returned (.bool true) ∧ Below w.heap.size w w' := by
  have c1b : decide ((4096 : Int) < (l0.length : Int)) = false := decide_eq_false (by omega)
  have c2b : decide (n < 0) = true := decide_eq_true h
  clear h h1
  obtain ⟨m0, hm0⟩ : ∃ m, m = l0.length := ⟨_, rfl⟩
  rw [← hm0] at c1b ⊢
  clear hm0
  go_enter Try.func6, Try.ntmps6
  go_wp2_with (first | (go_at_call 10; refine (alive_Q w).mono ?_; rintro e w1 ⟨rfl, hb⟩))
  go_ret
  exact ⟨rfl, hb⟩
set_option maxHeartbeats 4000000 in
set_option maxRecDepth 100000 in
theorem cut_m (w : World) (b : Bool) (h1 : l0.length ≤ 4096) (h2 : 0 ≤ n) (h : (l0.length : Int) < n) : Calls Try.prog 6 #[.slice A0 l0.length c0, .int .i64 n, .bool b, .int .i64 keep] w fun e w' => e = .returned (.bool true) ∧ Below w.heap.size w w' := by
  have c1b : decide ((4096 : Int) < (l0.length : Int)) = false := decide_eq_false (by omega)
  have c2b : decide (n < 0) = false := decide_eq_false (by omega)
  have c3b : decide ((l0.length : Int) < n) = true := decide_eq_true h
  clear h h1 h2
  obtain ⟨m0, hm0⟩ : ∃ m, m = l0.length := ⟨_, rfl⟩
  rw [← hm0] at c1b c3b ⊢
  clear hm0
  go_enter Try.func6, Try.ntmps6
  go_wp2_with (first | (go_at_call 10; refine (alive_Q w).mono ?_; rintro e w1 ⟨rfl, hb⟩))
  go_ret
  exact ⟨rfl, hb⟩
set_option maxHeartbeats 4000000 in
set_option maxRecDepth 100000 in
theorem cut_s (hl : l0.length ≤ 4096) (hb : ∀ x ∈ l0, 0 ≤ x ∧ x ≤ 255) (hn : 0 ≤ n) (hn2 : n ≤ (l0.length : Int))  (hC0 : bK.C w A0 l0.length l0) (hcc : l0.length ≤ c0) : Calls Try.prog 6 #[.slice A0 l0.length c0, .int .i64 n, .bool true, .int .i64 keep] w fun e w' => e = .returned (.bool true) ∧ Below w.heap.size w w' := by
  have c1b : decide ((4096 : Int) < (l0.length : Int)) = false := decide_eq_false (by omega)
  have c2b : decide (n < 0) = false := decide_eq_false (by omega)
  have c3b : decide ((l0.length : Int) < n) = false := decide_eq_false (by omega)
  have hw0 : 0 ≤ (n : Int) ∧ (n : Int) ≤ (l0.length : Int) := ⟨by omega, by omega⟩
  have hwant : loseB keep false (cuF l0 n l0.length) = l0.take (n : Int).toNat := cu_want l0 n keep l0.length hn hn2 n (by split <;> omega) (by first | exact .inl rfl | exact .inr rfl) (fun _ => .inr trivial)
  have hlen : ((l0.take (n : Int).toNat).length : Int) = n := by rw [List.length_take]; omega
  have HL := Aside0.mk hl
  have HB := Aside0.mk hb
  have HN := Aside0.mk hn
  have HC0 := Aside0.mk hC0
  have HW := Aside0.mk hwant
  obtain ⟨i0, hi0, _, hsz, _⟩ := info_parts infoB
  have hcut := cut_to (P := Try.prog) 22 5 .i64 Try.underlying22 hi0 A0 l0.length c0 n hw0.1 hw0.2 hcc
  have HCt := Aside0.mk (show bK.C w A0 (n : Int).toNat (l0.take (n : Int).toNat) from by
    have h1 := Kd.C_take (m := (n : Int).toNat) hC0 (by omega)
    rw [show (l0.take (n : Int).toNat).length = (n : Int).toNat by rw [List.length_take]; omega] at h1
    exact h1)
  obtain ⟨X, hX⟩ : ∃ X, X = l0.take (n : Int).toNat := ⟨_, rfl⟩
  rw [← hX] at hlen HW HCt
  have HXL := Aside0.mk hlen
  obtain ⟨mx, hmx⟩ : ∃ m, m = X.length := ⟨_, rfl⟩
  have HMX := Aside0.mk hmx
  rw [← hmx] at hlen
  obtain ⟨m0, hm0⟩ : ∃ m, m = l0.length := ⟨_, rfl⟩
  have HM0 := Aside0.mk hm0
  rw [← hm0] at c1b c3b hcut ⊢
  clear hl hb hn hn2 hC0 hcc hwant hw0 hm0 hX hmx hi0 hsz
  go_enter Try.func6, Try.ntmps6
  go_wp2_with (first
    | (go_at_call 10; refine (alive_Q w).mono ?_; rintro e w1 ⟨rfl, hb⟩; have HA := Aside0.mk hb; clear hb)
    | (go_at_call 11; refine (New_S' w w1 HA.out 1048576).mono ?_; rintro e w2 ⟨g, S0, rfl, hs, _, _⟩; have H0 := Aside0.mk hs; clear hs HA)
    | (go_at_call 12; have hq := cc1 (c0 := c0) HL.out HB.out HC0.out H0.out; rw [← HM0.out] at hq; refine hq.mono ?_; clear hq; rintro e w3 ⟨S1, rfl, hs⟩; have H1 := Aside0.mk hs; clear hs H0)
    | (go_at_call 12; have hq := cc2 (c0 := c0) HL.out HB.out HC0.out H1.out; rw [← HM0.out] at hq; refine hq.mono ?_; clear hq; rintro e w4 ⟨S2, rfl, hs⟩; have H2 := Aside0.mk hs; clear hs H1)
    | (go_at_call 15; refine (cc3 HL.out HB.out H2.out).mono ?_; rintro e w5 ⟨S3, rfl, hs⟩; have H3 := Aside0.mk hs; clear hs H2)
    | (go_at_call 19; refine (cc4 HN.out (cup3 HL.out HB.out) H3.out).mono ?_; rintro e w6 ⟨S4, rfl, hs⟩; have H4 := Aside0.mk hs; clear hs H3)
    | (go_at_call 20; refine (cc5 HN.out (cup3 HL.out HB.out) H4.out).mono ?_; rintro e w7 ⟨S5, rfl, hs⟩; have H5 := Aside0.mk hs; clear hs H4)
    | (go_at_call 16; refine (cc6 HN.out (cup3 HL.out HB.out) H5.out).mono ?_; rintro e w8 ⟨S6, rfl, hs⟩; have H6 := Aside0.mk hs; clear hs H5)
    | (go_at_call 17; refine (cc7 H6.out).mono ?_; rintro e w9 ⟨S7, rfl, hs⟩; have H7 := Aside0.mk hs; clear hs H6)
    | (go_at_call 13; have hq := cc8 HN.out (cup3 HL.out HB.out) HW.out H7.out; rw [← HMX.out] at hq; refine hq.mono ?_; clear hq; rintro e w11 ⟨X1, q1, rfl, hx1, hs, _⟩; have H8 := Aside0.mk hs; have HX1 := Aside0.mk hx1; clear hs H7 hx1)
    | (go_at_call 13; refine (cc9 HN.out (cup3 HL.out HB.out) H8.out).mono ?_; rintro e w12 ⟨X2, n2, q2, rfl, hs, hb12⟩; have H9 := Aside0.mk hs; have v1 := str_C (c := q1) (show bK.C w12.drew X1 mx X from C_below HX1.out (below_drew1 hb12)); have v2 := str_C (c := c0) (show bK.C w12.drew A0 (n : Int).toNat X from C_below HCt.out (below_drew1 hs.bel)); clear hs H8 hb12))
  go_region
  go_wp2
  go_ret
  exact ⟨by simp, H9.out.drew.bel⟩
set_option maxHeartbeats 4000000 in
set_option maxRecDepth 100000 in
theorem cut_a (hl : l0.length ≤ 4096) (hb : ∀ x ∈ l0, 0 ≤ x ∧ x ≤ 255) (hn : 0 ≤ n) (hn2 : n ≤ (l0.length : Int)) (hk : n ≤ keep) (hC0 : bK.C w A0 l0.length l0) (hcc : l0.length ≤ c0) : Calls Try.prog 6 #[.slice A0 l0.length c0, .int .i64 n, .bool false, .int .i64 keep] w fun e w' => e = .returned (.bool true) ∧ Below w.heap.size w w' := by
  have c1b : decide ((4096 : Int) < (l0.length : Int)) = false := decide_eq_false (by omega)
  have c2b : decide (n < 0) = false := decide_eq_false (by omega)
  have c3b : decide ((l0.length : Int) < n) = false := decide_eq_false (by omega)
  have k1b : decide (n ≤ keep) = true := decide_eq_true hk
  have k1c : decide (keep < n) = false := decide_eq_false (by omega)
  have hw0 : 0 ≤ (n : Int) ∧ (n : Int) ≤ (l0.length : Int) := ⟨by omega, by omega⟩
  have hwant : loseB keep false (cuF l0 n 0) = l0.take (n : Int).toNat := cu_want l0 n keep 0 hn hn2 n (by split <;> omega) (by first | exact .inl rfl | exact .inr rfl) (fun _ => .inr trivial)
  have hlen : ((l0.take (n : Int).toNat).length : Int) = n := by rw [List.length_take]; omega
  have HL := Aside0.mk hl
  have HB := Aside0.mk hb
  have HN := Aside0.mk hn
  have HC0 := Aside0.mk hC0
  have HW := Aside0.mk hwant
  obtain ⟨i0, hi0, _, hsz, _⟩ := info_parts infoB
  have hcut := cut_to (P := Try.prog) 22 5 .i64 Try.underlying22 hi0 A0 l0.length c0 n hw0.1 hw0.2 hcc
  have HCt := Aside0.mk (show bK.C w A0 (n : Int).toNat (l0.take (n : Int).toNat) from by
    have h1 := Kd.C_take (m := (n : Int).toNat) hC0 (by omega)
    rw [show (l0.take (n : Int).toNat).length = (n : Int).toNat by rw [List.length_take]; omega] at h1
    exact h1)
  obtain ⟨X, hX⟩ : ∃ X, X = l0.take (n : Int).toNat := ⟨_, rfl⟩
  rw [← hX] at hlen HW HCt
  have HXL := Aside0.mk hlen
  obtain ⟨mx, hmx⟩ : ∃ m, m = X.length := ⟨_, rfl⟩
  have HMX := Aside0.mk hmx
  rw [← hmx] at hlen
  obtain ⟨m0, hm0⟩ : ∃ m, m = l0.length := ⟨_, rfl⟩
  have HM0 := Aside0.mk hm0
  rw [← hm0] at c1b c3b hcut ⊢
  clear hl hb hn hn2 hC0 hcc hwant hw0 hm0 hX hmx hi0 hsz hk
  go_enter Try.func6, Try.ntmps6
  go_wp2_with (first
    | (go_at_call 10; refine (alive_Q w).mono ?_; rintro e w1 ⟨rfl, hb⟩; have HA := Aside0.mk hb; clear hb)
    | (go_at_call 11; refine (New_S' w w1 HA.out 1048576).mono ?_; rintro e w2 ⟨g, S0, rfl, hs, _, _⟩; have H0 := Aside0.mk hs; clear hs HA)
    | (go_at_call 12; have hq := cc1 (c0 := c0) HL.out HB.out HC0.out H0.out; rw [← HM0.out] at hq; refine hq.mono ?_; clear hq; rintro e w3 ⟨S1, rfl, hs⟩; have H1 := Aside0.mk hs; clear hs H0)
    | (go_at_call 12; have hq := cc2 (c0 := c0) HL.out HB.out HC0.out H1.out; rw [← HM0.out] at hq; refine hq.mono ?_; clear hq; rintro e w4 ⟨S2, rfl, hs⟩; have H2 := Aside0.mk hs; clear hs H1)
    | (go_at_call 15; refine (cc3 HL.out HB.out H2.out).mono ?_; rintro e w5 ⟨S3, rfl, hs⟩; have H3 := Aside0.mk hs; clear hs H2)
    | (go_at_call 19; refine (cc4 HN.out (cup2 HL.out HB.out) H2.out).mono ?_; rintro e w6 ⟨S4, rfl, hs⟩; have H4 := Aside0.mk hs; clear hs H2)
    | (go_at_call 20; refine (cc5 HN.out (cup2 HL.out HB.out) H4.out).mono ?_; rintro e w7 ⟨S5, rfl, hs⟩; have H5 := Aside0.mk hs; clear hs H4)
    | (go_at_call 16; refine (cc6 HN.out (cup2 HL.out HB.out) H5.out).mono ?_; rintro e w8 ⟨S6, rfl, hs⟩; have H6 := Aside0.mk hs; clear hs H5)
    | (go_at_call 17; refine (cc7 H6.out).mono ?_; rintro e w9 ⟨S7, rfl, hs⟩; have H7 := Aside0.mk hs; clear hs H6)
    | (go_at_call 13; have hq := cc8 HN.out (cup2 HL.out HB.out) HW.out H7.out; rw [← HMX.out] at hq; refine hq.mono ?_; clear hq; rintro e w11 ⟨X1, q1, rfl, hx1, hs, _⟩; have H8 := Aside0.mk hs; have HX1 := Aside0.mk hx1; clear hs H7 hx1)
    | (go_at_call 13; refine (cc9 HN.out (cup2 HL.out HB.out) H8.out).mono ?_; rintro e w12 ⟨X2, n2, q2, rfl, hs, hb12⟩; have H9 := Aside0.mk hs; have v1 := str_C (c := q1) (show bK.C w12.drew X1 mx X from C_below HX1.out (below_drew1 hb12)); have v2 := str_C (c := c0) (show bK.C w12.drew A0 (n : Int).toNat X from C_below HCt.out (below_drew1 hs.bel)); clear hs H8 hb12))
  go_region
  go_wp2
  go_ret
  exact ⟨by simp, H9.out.drew.bel⟩
set_option maxHeartbeats 4000000 in
set_option maxRecDepth 100000 in
theorem cut_b (hl : l0.length ≤ 4096) (hb : ∀ x ∈ l0, 0 ≤ x ∧ x ≤ 255) (hn : 0 ≤ n) (hn2 : n ≤ (l0.length : Int)) (hk : keep < n) (hk2 : 0 < keep) (hC0 : bK.C w A0 l0.length l0) (hcc : l0.length ≤ c0) : Calls Try.prog 6 #[.slice A0 l0.length c0, .int .i64 n, .bool false, .int .i64 keep] w fun e w' => e = .returned (.bool true) ∧ Below w.heap.size w w' := by
  have c1b : decide ((4096 : Int) < (l0.length : Int)) = false := decide_eq_false (by omega)
  have c2b : decide (n < 0) = false := decide_eq_false (by omega)
  have c3b : decide ((l0.length : Int) < n) = false := decide_eq_false (by omega)
  have k1b : decide (n ≤ keep) = false := decide_eq_false (by omega)
  have k2b : decide ((0 : Int) < keep) = true := decide_eq_true hk2
  have hw0 : 0 ≤ (keep : Int) ∧ (keep : Int) ≤ (l0.length : Int) := ⟨by omega, by omega⟩
  have hwant : loseB keep false (cuF l0 n 0) = l0.take (keep : Int).toNat := cu_want l0 n keep 0 hn hn2 keep (by split <;> omega) (by first | exact .inl rfl | exact .inr rfl) (fun _ => .inr trivial)
  have hlen : ((l0.take (keep : Int).toNat).length : Int) = keep := by rw [List.length_take]; omega
  have HL := Aside0.mk hl
  have HB := Aside0.mk hb
  have HN := Aside0.mk hn
  have HC0 := Aside0.mk hC0
  have HW := Aside0.mk hwant
  obtain ⟨i0, hi0, _, hsz, _⟩ := info_parts infoB
  have hcut := cut_to (P := Try.prog) 22 5 .i64 Try.underlying22 hi0 A0 l0.length c0 keep hw0.1 hw0.2 hcc
  have HCt := Aside0.mk (show bK.C w A0 (keep : Int).toNat (l0.take (keep : Int).toNat) from by
    have h1 := Kd.C_take (m := (keep : Int).toNat) hC0 (by omega)
    rw [show (l0.take (keep : Int).toNat).length = (keep : Int).toNat by rw [List.length_take]; omega] at h1
    exact h1)
  obtain ⟨X, hX⟩ : ∃ X, X = l0.take (keep : Int).toNat := ⟨_, rfl⟩
  rw [← hX] at hlen HW HCt
  have HXL := Aside0.mk hlen
  obtain ⟨mx, hmx⟩ : ∃ m, m = X.length := ⟨_, rfl⟩
  have HMX := Aside0.mk hmx
  rw [← hmx] at hlen
  obtain ⟨m0, hm0⟩ : ∃ m, m = l0.length := ⟨_, rfl⟩
  have HM0 := Aside0.mk hm0
  rw [← hm0] at c1b c3b hcut ⊢
  clear hl hb hn hn2 hC0 hcc hwant hw0 hm0 hX hmx hi0 hsz hk hk2
  go_enter Try.func6, Try.ntmps6
  go_wp2_with (first
    | (go_at_call 10; refine (alive_Q w).mono ?_; rintro e w1 ⟨rfl, hb⟩; have HA := Aside0.mk hb; clear hb)
    | (go_at_call 11; refine (New_S' w w1 HA.out 1048576).mono ?_; rintro e w2 ⟨g, S0, rfl, hs, _, _⟩; have H0 := Aside0.mk hs; clear hs HA)
    | (go_at_call 12; have hq := cc1 (c0 := c0) HL.out HB.out HC0.out H0.out; rw [← HM0.out] at hq; refine hq.mono ?_; clear hq; rintro e w3 ⟨S1, rfl, hs⟩; have H1 := Aside0.mk hs; clear hs H0)
    | (go_at_call 12; have hq := cc2 (c0 := c0) HL.out HB.out HC0.out H1.out; rw [← HM0.out] at hq; refine hq.mono ?_; clear hq; rintro e w4 ⟨S2, rfl, hs⟩; have H2 := Aside0.mk hs; clear hs H1)
    | (go_at_call 15; refine (cc3 HL.out HB.out H2.out).mono ?_; rintro e w5 ⟨S3, rfl, hs⟩; have H3 := Aside0.mk hs; clear hs H2)
    | (go_at_call 19; refine (cc4 HN.out (cup2 HL.out HB.out) H2.out).mono ?_; rintro e w6 ⟨S4, rfl, hs⟩; have H4 := Aside0.mk hs; clear hs H2)
    | (go_at_call 20; refine (cc5 HN.out (cup2 HL.out HB.out) H4.out).mono ?_; rintro e w7 ⟨S5, rfl, hs⟩; have H5 := Aside0.mk hs; clear hs H4)
    | (go_at_call 16; refine (cc6 HN.out (cup2 HL.out HB.out) H5.out).mono ?_; rintro e w8 ⟨S6, rfl, hs⟩; have H6 := Aside0.mk hs; clear hs H5)
    | (go_at_call 17; refine (cc7 H6.out).mono ?_; rintro e w9 ⟨S7, rfl, hs⟩; have H7 := Aside0.mk hs; clear hs H6)
    | (go_at_call 13; have hq := cc8 HN.out (cup2 HL.out HB.out) HW.out H7.out; rw [← HMX.out] at hq; refine hq.mono ?_; clear hq; rintro e w11 ⟨X1, q1, rfl, hx1, hs, _⟩; have H8 := Aside0.mk hs; have HX1 := Aside0.mk hx1; clear hs H7 hx1)
    | (go_at_call 13; refine (cc9 HN.out (cup2 HL.out HB.out) H8.out).mono ?_; rintro e w12 ⟨X2, n2, q2, rfl, hs, hb12⟩; have H9 := Aside0.mk hs; have v1 := str_C (c := q1) (show bK.C w12.drew X1 mx X from C_below HX1.out (below_drew1 hb12)); have v2 := str_C (c := c0) (show bK.C w12.drew A0 (keep : Int).toNat X from C_below HCt.out (below_drew1 hs.bel)); clear hs H8 hb12))
  go_region
  go_wp2
  go_ret
  exact ⟨by simp, H9.out.drew.bel⟩
set_option maxHeartbeats 4000000 in
set_option maxRecDepth 100000 in
theorem cut_c (hl : l0.length ≤ 4096) (hb : ∀ x ∈ l0, 0 ≤ x ∧ x ≤ 255) (hn : 0 ≤ n) (hn2 : n ≤ (l0.length : Int)) (hk : keep < n) (hk2 : keep ≤ 0) (hC0 : bK.C w A0 l0.length l0) (hcc : l0.length ≤ c0) : Calls Try.prog 6 #[.slice A0 l0.length c0, .int .i64 n, .bool false, .int .i64 keep] w fun e w' => e = .returned (.bool true) ∧ Below w.heap.size w w' := by
  have c1b : decide ((4096 : Int) < (l0.length : Int)) = false := decide_eq_false (by omega)
  have c2b : decide (n < 0) = false := decide_eq_false (by omega)
  have c3b : decide ((l0.length : Int) < n) = false := decide_eq_false (by omega)
  have k1b : decide (n ≤ keep) = false := decide_eq_false (by omega)
  have k2b : decide ((0 : Int) < keep) = false := decide_eq_false (by omega)
  have hw0 : 0 ≤ (0 : Int) ∧ (0 : Int) ≤ (l0.length : Int) := ⟨by omega, by omega⟩
  have hwant : loseB keep false (cuF l0 n 0) = l0.take (0 : Int).toNat := cu_want l0 n keep 0 hn hn2 0 (by split <;> omega) (by first | exact .inl rfl | exact .inr rfl) (fun _ => .inr trivial)
  have hlen : ((l0.take (0 : Int).toNat).length : Int) = 0 := by rw [List.length_take]; omega
  have HL := Aside0.mk hl
  have HB := Aside0.mk hb
  have HN := Aside0.mk hn
  have HC0 := Aside0.mk hC0
  have HW := Aside0.mk hwant
  obtain ⟨i0, hi0, _, hsz, _⟩ := info_parts infoB
  have hcut := cut_to (P := Try.prog) 22 5 .i64 Try.underlying22 hi0 A0 l0.length c0 0 hw0.1 hw0.2 hcc
  have HCt := Aside0.mk (show bK.C w A0 (0 : Int).toNat (l0.take (0 : Int).toNat) from by
    have h1 := Kd.C_take (m := (0 : Int).toNat) hC0 (by omega)
    rw [show (l0.take (0 : Int).toNat).length = (0 : Int).toNat by rw [List.length_take]; omega] at h1
    exact h1)
  have HW := Aside0.mk (show loseB keep false (cuF l0 n 0) = [] from HW.out)
  have HCt := Aside0.mk (show bK.C w A0 0 [] from HCt.out)
  have hcut : ∀ W, (Instr.slice 22 (.slice A0 l0.length c0) none (some (.int .i64 0)) none).run Try.prog W = .ok (.slice A0 0 c0) W := hcut
  clear hlen
  obtain ⟨m0, hm0⟩ : ∃ m, m = l0.length := ⟨_, rfl⟩
  have HM0 := Aside0.mk hm0
  rw [← hm0] at c1b c3b hcut ⊢
  clear hl hb hn hn2 hC0 hcc hwant hw0 hm0  hi0 hsz hk hk2
  go_enter Try.func6, Try.ntmps6
  go_wp2_with (first
    | (go_at_call 10; refine (alive_Q w).mono ?_; rintro e w1 ⟨rfl, hb⟩; have HA := Aside0.mk hb; clear hb)
    | (go_at_call 11; refine (New_S' w w1 HA.out 1048576).mono ?_; rintro e w2 ⟨g, S0, rfl, hs, _, _⟩; have H0 := Aside0.mk hs; clear hs HA)
    | (go_at_call 12; have hq := cc1 (c0 := c0) HL.out HB.out HC0.out H0.out; rw [← HM0.out] at hq; refine hq.mono ?_; clear hq; rintro e w3 ⟨S1, rfl, hs⟩; have H1 := Aside0.mk hs; clear hs H0)
    | (go_at_call 12; have hq := cc2 (c0 := c0) HL.out HB.out HC0.out H1.out; rw [← HM0.out] at hq; refine hq.mono ?_; clear hq; rintro e w4 ⟨S2, rfl, hs⟩; have H2 := Aside0.mk hs; clear hs H1)
    | (go_at_call 15; refine (cc3 HL.out HB.out H2.out).mono ?_; rintro e w5 ⟨S3, rfl, hs⟩; have H3 := Aside0.mk hs; clear hs H2)
    | (go_at_call 19; refine (cc4 HN.out (cup2 HL.out HB.out) H2.out).mono ?_; rintro e w6 ⟨S4, rfl, hs⟩; have H4 := Aside0.mk hs; clear hs H2)
    | (go_at_call 20; refine (cc5 HN.out (cup2 HL.out HB.out) H4.out).mono ?_; rintro e w7 ⟨S5, rfl, hs⟩; have H5 := Aside0.mk hs; clear hs H4)
    | (go_at_call 16; refine (cc6 HN.out (cup2 HL.out HB.out) H5.out).mono ?_; rintro e w8 ⟨S6, rfl, hs⟩; have H6 := Aside0.mk hs; clear hs H5)
    | (go_at_call 17; refine (cc7 H6.out).mono ?_; rintro e w9 ⟨S7, rfl, hs⟩; have H7 := Aside0.mk hs; clear hs H6)
    | (go_at_call 13; have hq := cc8 HN.out (cup2 HL.out HB.out) HW.out H7.out; rw [List.length_nil] at hq; refine hq.mono ?_; clear hq; rintro e w11 ⟨X1, q1, rfl, hx1, hs, _⟩; have H8 := Aside0.mk hs; have HX1 := Aside0.mk hx1; clear hs H7 hx1)
    | (go_at_call 13; refine (cc9 HN.out (cup2 HL.out HB.out) H8.out).mono ?_; rintro e w12 ⟨X2, n2, q2, rfl, hs, hb12⟩; have H9 := Aside0.mk hs; have v1 := str_C (c := q1) (show bK.C w12.drew X1 0 [] from C_below HX1.out (below_drew1 hb12)); have v2 := str_C (c := c0) (show bK.C w12.drew A0 0 [] from C_below HCt.out (below_drew1 hs.bel)); clear hs H8 hb12))
  go_region
  go_wp2
  go_ret
  exact ⟨by simp, H9.out.drew.bel⟩
end
theorem Cuts_Q (A0 : Option Addr) (c0 : Nat) (l0 : List Int) (n : Int) (sync : Bool) (keep : Int) (w : World) (hC0 : bK.C w A0 l0.length l0) (hb0 : ∀ x ∈ l0, 0 ≤ x ∧ x ≤ 255) (hcc : l0.length ≤ c0) :
    Calls Try.prog 6 #[.slice A0 l0.length c0, .int .i64 n, .bool sync, .int .i64 keep] w fun e w' => e = .returned (.bool true) ∧ Below w.heap.size w w' := by
  by_cases h : 4096 < l0.length
  · exact cut_l w sync h
  by_cases h1 : n < 0
  · exact cut_n w sync (by omega) h1
  by_cases h2 : (l0.length : Int) < n
  · exact cut_m w sync (by omega) (by omega) h2
  cases sync with
  | true => exact cut_s (by omega) hb0 (by omega) (by omega) hC0 hcc
  | false =>
    by_cases hk : n ≤ keep
    · exact cut_a (by omega) hb0 (by omega) (by omega) hk hC0 hcc
    · by_cases hk2 : 0 < keep
      · exact cut_b (by omega) hb0 (by omega) (by omega) (by omega) hk2 hC0 hcc
      · exact cut_c (by omega) hb0 (by omega) (by omega) (by omega) (by omega) hC0 hcc
theorem cuts_walk (a0 : Option Addr) (len0 cap0 : Nat) (z0 : List Int) (a1 : Int) (a2 : Bool) (a3 : Int) (w : World) (w0 : (a0 = none ∧ len0 = 0 ∧ cap0 = 0 ∧ z0 = []) ∨ ∃ x, a0 = some x ∧ len0 ≤ cap0 ∧ cap0 ≤ maxLen ∧ z0.length = cap0 ∧ (∀ i, i < z0.length → w.cell? (x.add i) = some (.int .u8 (z0.getD i 0))) ∧ ∀ n ∈ z0, (Lit.int .u8 n).wf = true) (y0 : len0 * 1 ≤ 140737488351232) (w1 : (Lit.int .i64 a1).wf = true) (w3 : (Lit.int .i64 a3).wf = true) :
    Calls Try.prog 6 #[.slice a0 len0 cap0, .int .i64 a1, .bool a2, .int .i64 a3] w fun e w' => e = .returned (.bool true) ∧ Below w.heap.size w w' := by
  obtain ⟨l0, rfl, hr0, hm0, hw0, hc0⟩ := ReadsInt.ofRowC w0
  exact Cuts_Q a0 cap0 l0 a1 a2 a3 w (Kd.C_of_reads (d := (0 : Int)) (h1 := fun _ => rfl) hr0) (byt_le hw0) hc0
end Go.Proofs.Ytoedkemjidgbeaa.Dk
