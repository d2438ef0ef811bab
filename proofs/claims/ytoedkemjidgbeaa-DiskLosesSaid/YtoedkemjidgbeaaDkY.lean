/- DiskKeeps. -/
import Derived.Test.YtoedkemjidgbeaaDkX
namespace Go.Proofs.Ytoedkemjidgbeaa.Dk
open Go Go.RowKit Go.Proofs.YtoedkemjidgbeaaW.PrintWords Go.Proofs.YtoedkemjidgbeaaW.PrintLast Go.Proofs.YtoedkemjidgbeaaW.PrintMore Go.Proofs.YtoedkemjidgbeaaMy Go.Proofs.Ytoedkemjidgbeaa Go.Proofs.YtoedkemjidgbeaaPw Go.Proofs.Ytoedkemjidgbeaa.PAll
attribute [local go_sem] max2_m min2_m max_two min_two
set_option linter.unusedVariables false
set_option linter.unusedSimpArgs false
section
variable {w0 w W W' : World} {S S' : Nat → Prop} {g : Nat} {d d' : DS}
theorem St.put (h : St w0 S W g d) {q j : Nat} (hq : w0.heap.size ≤ q) (hS : ¬ S q) (u : Value) : St w0 S (W.setCell ⟨q, j, none⟩ u) g d := by
  have hk : ∀ k, k ≠ q → (W.setCell ⟨q, j, none⟩ u).heap[k]? = W.heap[k]? := fun k hk => Below.heap_setCell W ⟨q, j, none⟩ u k hk
  have hs : (W.setCell ⟨q, j, none⟩ u).heap.size = W.heap.size := by simp [World.setCell]
  exact ⟨h.dev.move (by rw [hs]; exact Nat.le_refl _) (fun k hkS => hk k (fun e => hS (e ▸ hkS))), ⟨h.bel.os, h.bel.tape, h.bel.output, by rw [hs]; exact h.bel.size, fun k hlt => (hk k (by omega)).trans (h.bel.block k hlt)⟩⟩
theorem step_wrap {k m : Nat} (h : k < m) (hm : m ≤ 4096) : wrap64 ((k : Int) + 1) = ((k + 1 : Nat) : Int) := by
  have h1 : (k : Int) < 4096 := Int.ofNat_lt.2 (Nat.lt_of_lt_of_le h hm)
  rw [w64 (by omega) (by omega)]
  rfl
theorem step_val {k m : Nat} (h : k < m) (hm : m ≤ 4096) : Value.int .i64 (wrap64 ((k : Int) + 1)) = .int .i64 ((k + 1 : Nat) : Int) := by rw [step_wrap h hm]
theorem step_meas {k m : Nat} (h : k < m) (hm : m ≤ 4096) : m - (intOf (.int .i64 (wrap64 ((k : Int) + 1)))).toNat < m - (intOf (.int .i64 (k : Int))).toNat := by
  rw [step_wrap h hm]
  show m - (((k + 1 : Nat) : Int)).toNat < m - ((k : Int)).toNat
  rw [Int.toNat_natCast, Int.toNat_natCast]
  exact Nat.sub_lt_sub_left h (Nat.lt_succ_self k)
/-- A row of the walk's own, beside the device. -/
structure Mine (w0 : World) (S : Nat → Prop) (W : World) (v : Value) (n : Nat) : Prop where
  row : ∃ xs, bK.R 5 W w0.heap.size (fun k => ¬ S k) v xs ∧ xs.length = n
theorem Mine.cell {A : Option Addr} {m c : Nat} (h : Mine w0 S W (.slice A m c) m) {i : Nat} (hi : i < m) : ∃ q x, A = some ⟨q, 0, none⟩ ∧ w0.heap.size ≤ q ∧ ¬ S q ∧ W.cell? ⟨q, i, none⟩ = some (.int .u8 x) ∧ W.frozen? ⟨q, i, none⟩ = false ∧ ∀ y, Mine w0 S (W.setCell ⟨q, i, none⟩ (.int .u8 y)) (.slice A m c) m := by
  obtain ⟨xs, hr, hl⟩ := h.row
  rcases R_shape hr with ⟨e1, e2⟩ | ⟨q, cap, e1, hb, hc⟩
  · subst e2
    simp only [List.length_nil] at hl
    omega
  · injection e1 with e1 e3 e4
    subst e1
    have hcell := Kd.R_celln (0 : Int) hr (i : Int) (by omega) (by omega)
    rw [Int.toNat_natCast] at hcell
    refine ⟨q, _, rfl, hb, hr.1 q rfl, hcell.1, hcell.2, fun y => ⟨xs.set i y, ?_, ?_⟩⟩
    · have h4 := (Kd.R_putg hr (i : Int) y).1
      rw [Int.toNat_natCast] at h4
      exact h4
    · rw [List.length_set]; exact hl
theorem Mine.of {w2 w3 w4 : World} {S1 : Nat → Prop} {v : Value} {xs : List Int} {ok : Nat → Prop} (ho : bK.R 5 w2 w0.heap.size ok v xs) (hlo : ∀ k, S k → w2.heap.size ≤ k) (hb : Below w2.heap.size w2 w3) (hst : Step S w3 S1 w4) {n : Nat} (hn : xs.length = n) : Mine w0 S1 w4 v n := by
  have hlt := Kd.R_lt ho
  have h3 : bK.R 5 w3 w0.heap.size ok v xs := R_moved ho (fun k hk => hb.block k (hlt k hk))
  have h4 : bK.R 5 w4 w0.heap.size ok v xs := R_moved h3 (fun k hk => hst.only.block k (Nat.lt_of_lt_of_le (hlt k hk) hb.size) (fun hS => by have h1 := hlo k hS; have h2 := hlt k hk; omega))
  refine ⟨xs, Kd.R_of_own (Kd.own_of_R h4) (fun k hk hS => ?_), hn⟩
  have h1 := hlt k hk
  have h2 := hb.size
  rcases hst.sub k hS with h5 | h5
  · have := hlo k h5
    omega
  · omega
end
section
variable {w W : World} {S : Nat → Prop} {g : Nat} {A0 : Option Addr} {c0 : Nat} {l0 : List Int}
set_option maxHeartbeats 4000000 in
set_option maxRecDepth 100000 in
theorem keep_l (w : World) (h : 4096 < l0.length) : Calls Try.prog 3 #[.slice A0 l0.length c0] w fun e w' => e = .returned (.bool true) ∧ Below w.heap.size w w' := by
  have c1b : decide ((4096 : Int) < (l0.length : Int)) = true := decide_eq_true (by omega)
  clear h
  obtain ⟨m0, hm0⟩ : ∃ m, m = l0.length := ⟨_, rfl⟩
  rw [← hm0] at c1b ⊢
  clear hm0
  go_enter Try.func3, Try.ntmps3
  go_wp2_with (first | (go_at_call 10; refine (alive_Q w).mono ?_; rintro e w1 ⟨rfl, hb⟩))
  go_ret
  exact ⟨rfl, hb⟩
theorem kp1 (hl : l0.length ≤ 4096) (hb : ∀ x ∈ l0, 0 ≤ x ∧ x ≤ 255) (h : St w S W g (new 1048576)) {A : Option Addr} {c : Nat} (hx : Row S W A l0.length l0) : Calls Try.prog 12 #[.pointer (some ⟨g, 0, none⟩), .string ⟨#[102]⟩, .slice A l0.length c] W fun e W' => ∃ S', e = .returned (.int .i64 0) ∧ St w S' W' g (BD [⟨fN, l0, 0⟩] false 1 0 0 false) ∧ Step S W S' W' :=
  Append_S (s := fN) h (DS.Up.new 1048576) (by decide) hx (by omega) hb (cu1 l0 hl)
theorem kp2 (hl : l0.length ≤ 4096) (hb : ∀ x ∈ l0, 0 ≤ x ∧ x ≤ 255) (h : St w S W g (BD [⟨fN, l0, 0⟩] false 1 0 0 false)) : Calls Try.prog 13 #[.pointer (some ⟨g, 0, none⟩), .string ⟨#[102]⟩] W fun e W' => ∃ A c, e = .returned (.tuple #[.slice A l0.length c, .int .i64 0]) ∧ bK.C W' A l0.length l0 ∧ Mine w S W' (.slice A l0.length c) l0.length ∧ St w S W' g (BD [⟨fN, l0, 0⟩] false 1 0 0 false) ∧ Below W.heap.size W W' := by
  refine (Read_S (s := fN) h (cup1 hl hb) (cu8' 1 l0 0)).mono ?_
  rintro e W' ⟨A, m, c, he, hm, hr, hs, hb, hcv⟩
  subst hm
  refine ⟨A, c, he, (Kd.R_reads' hr).2.2, ⟨l0, ?_, rfl⟩, hs, hb⟩
  have hb2 := Kd.R_base2 hr
  have hge : ∀ k, (Value.slice A l0.length c).ownBlock = some k → W.heap.size ≤ k := fun k hk => by
    rcases hb2 with h0 | ⟨k2, h3, h4⟩
    · rw [hk] at h0; cases h0
    · rw [hk] at h3; cases h3; exact h4
  exact Kd.R_of_own (own_less (Kd.own_of_R hr) h.bel.size) (fun k hk hS => by have h1 := hge k hk; have h2 := h.dev.hi k hS; omega)
set_option maxHeartbeats 4000000 in
set_option maxRecDepth 100000 in
theorem keep_a (hl : l0.length ≤ 4096) (hb : ∀ x ∈ l0, 0 ≤ x ∧ x ≤ 255) (hC0 : bK.C w A0 l0.length l0) : Calls Try.prog 3 #[.slice A0 l0.length c0] w fun e w' => e = .returned (.bool true) ∧ Below w.heap.size w w' := by
  have c1b : decide ((4096 : Int) < (l0.length : Int)) = false := decide_eq_false (by omega)
  have HL := Aside0.mk hl
  have HB := Aside0.mk hb
  have HC0 := Aside0.mk hC0
  obtain ⟨m0, hm0⟩ : ∃ m, m = l0.length := ⟨_, rfl⟩
  have HM0 := Aside0.mk hm0
  have HM4 := Aside0.mk (show m0 ≤ 4096 from by rw [hm0]; exact hl)
  rw [← hm0] at c1b ⊢
  clear hl hb hC0 hm0
  go_enter Try.func3, Try.ntmps3
  go_wp2_with (first
    | (go_at_call 10; refine (alive_Q w).mono ?_; rintro e w1 ⟨rfl, hb⟩; have HA := Aside0.mk hb; clear hb)
    | ((with_reducible refine gate_builtin (b := .append) (xs := #[.tmp 16, .tmp 17]) rfl ?_); (try (refine gate_guard (by rfl) ?_; dsimp only)); at_builtin; refine Kd.R_append_row (Value.int .u8) 0 (w0 := w) w.heap.size rfl (.tmp 16) (.tmp 17) 22 5 (.int .u8 0) 1 rfl Try.underlying22 info5_ rfl (by decide) (.slice (some ⟨w1.heap.size, 0, none⟩) 0 0) [] l0 A0 m0 c0 (fun _ => True) rfl rfl (fun _ _ => trivial) (Kd.R_of_own (own_less (World.ownsRow_lit w1 #[] 0 (Nat.le_refl _) (by decide) rfl) HA.out.size) (fun _ _ => trivial)) (by rw [HM0.out]; exact C_below HC0.out (below_alloc HA.out _)) (below_alloc HA.out _) ?aS ?aL ?_; (case aS => exact (below_alloc HA.out _).size); (case aL => have := HL.out; have := HM0.out; simp only [List.length_nil]; omega); intro v1 w2 ho hb hg hat; have ho2 : bK.R 5 w2 w.heap.size (fun _ => True) v1 l0 := ho; obtain ⟨A1, c1, ev1⟩ := Kd.R_slice ho2; subst ev1; have HC1 := Aside0.mk (Kd.R_reads' ho2).2.2; have HO := Aside0.mk ho2; rw [← HM0.out] at HC1 HO; have HB2 := Aside0.mk hb; rw [← HM0.out]; clear ho ho2 hb hg hat HA)
    | (go_at_call 11; refine (New_S' w w2 HB2.out 1048576).mono ?_; rintro e w3 ⟨g, S0, rfl, hs, hlo, hb3⟩; have H0 := Aside0.mk hs; have HLo := Aside0.mk hlo; have HB3 := Aside0.mk hb3; clear hs hlo hb3)
    | (go_at_call 12; have hrow : Row S0 w3 A1 m0 l0 := Row.below (Row.came HC1.out HLo.out) HB3.out; have hq := kp1 (c := c1) HL.out HB.out H0.out (by rw [← HM0.out]; exact hrow); rw [← HM0.out] at hq; refine hq.mono ?_; clear hq; rintro e w4 ⟨S1, rfl, hs, hst⟩; have v0 := str_C (c := c0) (C_below HC0.out hs.bel); have v1 := str_C (c := c1) (Kd.F_now (hrow.step hst)); rw [← HM0.out] at v0; have H1 := Aside0.mk hs; have HM1 := Aside0.mk (Mine.of HO.out HLo.out HB3.out hst HM0.out.symm); clear hs hst hrow H0 HLo HB3 HO HC1))
  try go_frame
  go_loopw [30] (fun i wr => ∃ k : Nat, k ≤ m0 ∧ i = .int .i64 (k : Int) ∧ Aside0 (Mine w S1 wr (.slice A1 m0 c1) m0) ∧ Aside0 (St w S1 wr g (BD [⟨fN, l0, 0⟩] false 1 0 0 false))) (fun i _ => m0 - (intOf i).toNat)
  case atStart => exact ⟨0, Nat.zero_le _, rfl, HM1, H1⟩
  case round =>
    obtain ⟨k, hk, rfl, HMk, HSk⟩ := hrel
    by_cases hlt : k < m0
    · obtain ⟨q, x, rfl, hq, hnS, zc, zf, hput⟩ := HMk.out.cell hlt
      have kb : decide ((k : Int) < (m0 : Int)) = true := decide_eq_true (Int.ofNat_lt.2 hlt)
      have HPut := Aside0.mk hput
      have HQ := Aside0.mk hq
      have HNS := Aside0.mk hnS
      clear hput hq hnS
      go_wp2
      go_roundw
      case rel => exact ⟨k + 1, hlt, step_val hlt HM4.out, ⟨HPut.out _⟩, ⟨HSk.out.put HQ.out HNS.out _⟩⟩
      case measure => exact step_meas hlt HM4.out
    · have ek : k = m0 := Nat.le_antisymm hk (Nat.le_of_not_lt hlt)
      subst ek
      have HR0 := HSk
      clear HMk HM1 H1
      go_wp2_with (first
        | (go_at_call 13; have hq := kp2 HL.out HB.out HR0.out; rw [← HM0.out] at hq; refine hq.mono ?_; clear hq; rintro e w5 ⟨A2, c2, rfl, _, hmi, hs, _⟩; have H2 := Aside0.mk hs; have HM2 := Aside0.mk hmi; clear hs hmi HR0 HSk))
      go_loopw [47] (fun i wr => ∃ j : Nat, j ≤ k ∧ i = .int .i64 (j : Int) ∧ Aside0 (Mine w S1 wr (.slice A2 k c2) k) ∧ Aside0 (St w S1 wr g (BD [⟨fN, l0, 0⟩] false 1 0 0 false))) (fun i _ => k - (intOf i).toNat)
      case atStart => exact ⟨0, Nat.zero_le _, rfl, HM2, H2⟩
      case round =>
        obtain ⟨j, hj, rfl, HMj, HSj⟩ := hrel
        by_cases hlt : j < k
        · obtain ⟨q, x, rfl, hq, hnS, zc, zf, hput⟩ := HMj.out.cell hlt
          have kb : decide ((j : Int) < (k : Int)) = true := decide_eq_true (Int.ofNat_lt.2 hlt)
          have HPut := Aside0.mk hput
          have HQ := Aside0.mk hq
          have HNS := Aside0.mk hnS
          clear hput hq hnS
          go_wp2
          go_roundw
          case rel => exact ⟨j + 1, hlt, step_val hlt HM4.out, ⟨HPut.out _⟩, ⟨HSj.out.put HQ.out HNS.out _⟩⟩
          case measure => exact step_meas hlt HM4.out
        · have ej : j = k := Nat.le_antisymm hj (Nat.le_of_not_lt hlt)
          subst ej
          have HR1 := HSj
          clear HMj HM2 H2
          go_wp2_with (first
            | (go_at_call 13; have hq := kp2 HL.out HB.out HR1.out; rw [← HM0.out] at hq; refine hq.mono ?_; clear hq; rintro e w6 ⟨A3, c3, rfl, hC3, _, hs, _⟩; have v3 := str_C (c := c3) hC3; have v4 := str_C (c := c0) (C_below HC0.out hs.bel); rw [← HM0.out] at v4; have H3 := Aside0.mk hs; clear hs hC3 HR1 HSj))
          go_ret
          exact ⟨by simp, H3.out.bel⟩
theorem keeps_walk (a0 : Option Addr) (len0 cap0 : Nat) (z0 : List Int) (w : World) (w0 : (a0 = none ∧ len0 = 0 ∧ cap0 = 0 ∧ z0 = []) ∨ ∃ x, a0 = some x ∧ len0 ≤ cap0 ∧ cap0 ≤ maxLen ∧ z0.length = cap0 ∧ (∀ i, i < z0.length → w.cell? (x.add i) = some (.int .u8 (z0.getD i 0))) ∧ ∀ n ∈ z0, (Lit.int .u8 n).wf = true) (y0 : len0 * 1 ≤ 140737488351232) :
    Calls Try.prog 3 #[.slice a0 len0 cap0] w fun e w' => e = .returned (.bool true) ∧ Below w.heap.size w w' := by
  obtain ⟨l0, rfl, hr0, hm0, hw0, hc0⟩ := ReadsInt.ofRowC w0
  by_cases h : 4096 < l0.length
  · exact keep_l w h
  · exact keep_a (by omega) (byt_le hw0) (Kd.C_of_reads (d := (0 : Int)) (h1 := fun _ => rfl) hr0)
end
end Go.Proofs.Ytoedkemjidgbeaa.Dk
