/- DiskRenames. -/
import Derived.Test.YtoedkemjidgbeaaDkU
namespace Go.Proofs.Ytoedkemjidgbeaa.Dk
open Go Go.RowKit Go.Proofs.YtoedkemjidgbeaaW.PrintWords Go.Proofs.YtoedkemjidgbeaaW.PrintLast Go.Proofs.YtoedkemjidgbeaaW.PrintMore Go.Proofs.YtoedkemjidgbeaaMy Go.Proofs.Ytoedkemjidgbeaa Go.Proofs.YtoedkemjidgbeaaPw Go.Proofs.Ytoedkemjidgbeaa.PAll
attribute [local go_sem] max2_m min2_m max_two min_two
set_option linter.unusedVariables false
set_option linter.unusedSimpArgs false
theorem Row.arg {w0 W : World} {S : Nat → Prop} {g : Nat} {d : DS} {A : Option Addr} {n : Nat} {xs : List Int} (hC : bK.C w0 A n xs) (h : St w0 S W g d) : Row S W A n xs :=
  Kd.F_mono (Kd.F_below (Kd.C_F (Kd.heap_int .u8) hC) h.bel) (fun k hk hS => by have := h.dev.lo k hS; omega)
theorem C_below {W W' : World} {A : Option Addr} {n : Nat} {xs : List Int} (h : bK.C W A n xs) (hb : Below W.heap.size W W') : bK.C W' A n xs := (Kd.heap_int .u8).C (fun k hk => hb.block k hk) h
theorem str_C {W : World} {A : Option Addr} {n c : Nat} {xs : List Int} (h : bK.C W A n xs) : (convert 22 9 (.slice A n c)).run Try.prog W = .ok (.string (strOfNums xs)) W := Kd.C_string Try.underlying22 Try.underlying5 Try.underlying9 h
section
variable {w W : World} {S : Nat → Prop} {g : Nat} {A0 A1 : Option Addr} {c0 c1 : Nat} {l0 l1 : List Int} {n keep : Int} {torn : Bool}
theorem ru1 (h : l0.length ≤ 4096) (hb : ∀ x ∈ l0, 0 ≤ x ∧ x ≤ 255) : (BD [⟨aN, l0, 0⟩] false 1 0 0 false).Up 1 := by
  have := (DS.Up.new 1048576).append aN hb
  rw [rn1 l0 h] at this
  exact this
theorem ru2 (h : l0.length ≤ 4096) (hb : ∀ x ∈ l0, 0 ≤ x ∧ x ≤ 255) : (BD [⟨aN, l0, l0.length⟩] false 2 0 0 false).Up 2 := by
  have := (ru1 h hb).sync aN
  rw [rn2 l0] at this
  exact this
theorem ru3 (h : l0.length ≤ 4096) (hb : ∀ x ∈ l0, 0 ≤ x ∧ x ≤ 255) (h2 : l1.length ≤ 4096) (hb2 : ∀ x ∈ l1, 0 ≤ x ∧ x ≤ 255) : (BD [⟨aN, l0, l0.length⟩, ⟨bN, l1, 0⟩] false 3 0 0 false).Up 3 := by
  have := (ru2 h hb).append bN hb2
  rw [rn3 l0 l1 h h2] at this
  exact this
theorem ru4 (h : l0.length ≤ 4096) (hb : ∀ x ∈ l0, 0 ≤ x ∧ x ≤ 255) (h2 : l1.length ≤ 4096) (hb2 : ∀ x ∈ l1, 0 ≤ x ∧ x ≤ 255) : (BD [⟨aN, l0, l0.length⟩, ⟨bN, l1, l1.length⟩] false 4 0 0 false).Up 4 := by
  have := (ru3 h hb h2 hb2).sync bN
  rw [rn4 l0 l1] at this
  exact this
theorem ru5 (h : l0.length ≤ 4096) (hb : ∀ x ∈ l0, 0 ≤ x ∧ x ≤ 255) (h2 : l1.length ≤ 4096) (hb2 : ∀ x ∈ l1, 0 ≤ x ∧ x ≤ 255) (hn : n ≤ 9223372036854775807) : (rnA l0 l1 n keep torn).Up 4 := (ru4 h hb h2 hb2).arm n keep torn hn
theorem rc1 (hl : l0.length ≤ 4096) (hb : ∀ x ∈ l0, 0 ≤ x ∧ x ≤ 255) (hC : bK.C w A0 l0.length l0) (h : St w S W g (new 1048576)) : Calls Try.prog 12 #[.pointer (some ⟨g, 0, none⟩), .string ⟨#[97]⟩, .slice A0 l0.length c0] W fun e W' => ∃ S', e = .returned (.int .i64 0) ∧ St w S' W' g (BD [⟨aN, l0, 0⟩] false 1 0 0 false) := by
  refine (Append_S (s := aN) h (DS.Up.new 1048576) (by decide) (Row.arg hC h) (by omega) hb (rn1 l0 hl)).mono ?_
  rintro e W' ⟨S', he, h2, _⟩
  exact ⟨S', he, h2⟩
theorem rc2 (hl : l0.length ≤ 4096) (hb : ∀ x ∈ l0, 0 ≤ x ∧ x ≤ 255) (h : St w S W g (BD [⟨aN, l0, 0⟩] false 1 0 0 false)) : Calls Try.prog 15 #[.pointer (some ⟨g, 0, none⟩), .string ⟨#[97]⟩] W fun e W' => ∃ S', e = .returned (.int .i64 0) ∧ St w S' W' g (BD [⟨aN, l0, l0.length⟩] false 2 0 0 false) := by
  refine (Sync_S (s := aN) h (ru1 hl hb) (by decide) (rn2 l0)).mono ?_
  rintro e W' ⟨S', he, h2, _⟩
  exact ⟨S', he, h2⟩
theorem rc3 (hl : l0.length ≤ 4096) (hb : ∀ x ∈ l0, 0 ≤ x ∧ x ≤ 255) (hl2 : l1.length ≤ 4096) (hb2 : ∀ x ∈ l1, 0 ≤ x ∧ x ≤ 255) (hC : bK.C w A1 l1.length l1) (h : St w S W g (BD [⟨aN, l0, l0.length⟩] false 2 0 0 false)) : Calls Try.prog 12 #[.pointer (some ⟨g, 0, none⟩), .string ⟨#[98]⟩, .slice A1 l1.length c1] W fun e W' => ∃ S', e = .returned (.int .i64 0) ∧ St w S' W' g (BD [⟨aN, l0, l0.length⟩, ⟨bN, l1, 0⟩] false 3 0 0 false) := by
  refine (Append_S (s := bN) h (ru2 hl hb) (by decide) (Row.arg hC h) (by omega) hb2 (rn3 l0 l1 hl hl2)).mono ?_
  rintro e W' ⟨S', he, h2, _⟩
  exact ⟨S', he, h2⟩
theorem rc4 (hl : l0.length ≤ 4096) (hb : ∀ x ∈ l0, 0 ≤ x ∧ x ≤ 255) (hl2 : l1.length ≤ 4096) (hb2 : ∀ x ∈ l1, 0 ≤ x ∧ x ≤ 255) (h : St w S W g (BD [⟨aN, l0, l0.length⟩, ⟨bN, l1, 0⟩] false 3 0 0 false)) : Calls Try.prog 15 #[.pointer (some ⟨g, 0, none⟩), .string ⟨#[98]⟩] W fun e W' => ∃ S', e = .returned (.int .i64 0) ∧ St w S' W' g (BD [⟨aN, l0, l0.length⟩, ⟨bN, l1, l1.length⟩] false 4 0 0 false) := by
  refine (Sync_S (s := bN) h (ru3 hl hb hl2 hb2) (by decide) (rn4 l0 l1)).mono ?_
  rintro e W' ⟨S', he, h2, _⟩
  exact ⟨S', he, h2⟩
theorem rc5  (h : St w S W g (BD [⟨aN, l0, l0.length⟩, ⟨bN, l1, l1.length⟩] false 4 0 0 false)) : Calls Try.prog 14 #[.pointer (some ⟨g, 0, none⟩), .int .i64 n, .int .i64 keep, .bool torn] W fun e W' => ∃ S', e = .returned (.tuple #[]) ∧ St w S' W' g (rnA l0 l1 n keep torn) := by
  refine (Arm_S h (rn5 l0 l1 n keep torn)).mono ?_
  rintro e W' ⟨S', he, h2, _⟩
  exact ⟨S', he, h2⟩
theorem ru6a (hl : l0.length ≤ 4096) (hb : ∀ x ∈ l0, 0 ≤ x ∧ x ≤ 255) (hl2 : l1.length ≤ 4096) (hb2 : ∀ x ∈ l1, 0 ≤ x ∧ x ≤ 255) (hn : n ≤ 9223372036854775807) (hn1 : ¬ n = 1) : (BD [⟨bN, l0, l0.length⟩] false 5 (if max n 0 = 0 then 0 else max n 0 - 1) keep torn).Up 5 := by
  have := (ru5 (keep := keep) (torn := torn) hl hb hl2 hb2 hn).rename aN bN
  rw [rn6a l0 l1 n keep torn hn1] at this
  exact this
theorem ru7a (hl : l0.length ≤ 4096) (hb : ∀ x ∈ l0, 0 ≤ x ∧ x ≤ 255) (hl2 : l1.length ≤ 4096) (hb2 : ∀ x ∈ l1, 0 ≤ x ∧ x ≤ 255) (hn : n ≤ 9223372036854775807) (hn1 : ¬ n = 1) : (BD [⟨bN, l0, l0.length⟩] false 5 0 keep torn).Up 5 := by
  have := ((ru6a (keep := keep) (torn := torn) hl hb hl2 hb2 hn hn1).off keep torn).on
  rw [rn7a] at this
  exact this
theorem rc6a (hl : l0.length ≤ 4096) (hb : ∀ x ∈ l0, 0 ≤ x ∧ x ≤ 255) (hl2 : l1.length ≤ 4096) (hb2 : ∀ x ∈ l1, 0 ≤ x ∧ x ≤ 255) (hn : n ≤ 9223372036854775807) (hn1 : ¬ n = 1) (h : St w S W g (rnA l0 l1 n keep torn)) : Calls Try.prog 18 #[.pointer (some ⟨g, 0, none⟩), .string ⟨#[97]⟩, .string ⟨#[98]⟩] W fun e W' => ∃ S', e = .returned (.int .i64 0) ∧ St w S' W' g (BD [⟨bN, l0, l0.length⟩] false 5 (if max n 0 = 0 then 0 else max n 0 - 1) keep torn) := by
  refine (Rename_S (s := aN) (b := bN) h (ru5 hl hb hl2 hb2 hn) (by decide) (rn6a l0 l1 n keep torn hn1)).mono ?_
  rintro e W' ⟨S', he, h2, _⟩
  exact ⟨S', he, h2⟩
theorem rc7a (hl : l0.length ≤ 4096) (hb : ∀ x ∈ l0, 0 ≤ x ∧ x ≤ 255) (hl2 : l1.length ≤ 4096) (hb2 : ∀ x ∈ l1, 0 ≤ x ∧ x ≤ 255) (hn : n ≤ 9223372036854775807) (hn1 : ¬ n = 1) (h : St w S W g (BD [⟨bN, l0, l0.length⟩] false 5 (if max n 0 = 0 then 0 else max n 0 - 1) keep torn)) : Calls Try.prog 16 #[.pointer (some ⟨g, 0, none⟩), .int .i64 keep, .bool torn] W fun e W' => ∃ S', e = .returned (.tuple #[]) ∧ St w S' W' g (BD [⟨bN, l0, l0.length⟩] true 5 0 keep torn) := by
  refine (Off_S h (ru6a hl hb hl2 hb2 hn hn1) (rn7a l0 keep torn _)).mono ?_
  rintro e W' ⟨S', he, h2, _⟩
  exact ⟨S', he, h2⟩
theorem rc8a  (h : St w S W g (BD [⟨bN, l0, l0.length⟩] true 5 0 keep torn)) : Calls Try.prog 17 #[.pointer (some ⟨g, 0, none⟩)] W fun e W' => ∃ S', e = .returned (.tuple #[]) ∧ St w S' W' g (BD [⟨bN, l0, l0.length⟩] false 5 0 keep torn) := by
  refine (On_S h (d' := BD [⟨bN, l0, l0.length⟩] false 5 0 keep torn) rfl).mono ?_
  rintro e W' ⟨S', he, h2, _⟩
  exact ⟨S', he, h2⟩
theorem rc9a (hl : l0.length ≤ 4096) (hb : ∀ x ∈ l0, 0 ≤ x ∧ x ≤ 255) (hl2 : l1.length ≤ 4096) (hb2 : ∀ x ∈ l1, 0 ≤ x ∧ x ≤ 255) (hn : n ≤ 9223372036854775807) (hn1 : ¬ n = 1) (h : St w S W g (BD [⟨bN, l0, l0.length⟩] false 5 0 keep torn)) : Calls Try.prog 13 #[.pointer (some ⟨g, 0, none⟩), .string ⟨#[97]⟩] W fun e W' => ∃ A n c, e = .returned (.tuple #[.slice A n c, .int .i64 5]) ∧ bK.C W' A n ([]) ∧ St w S W' g (BD [⟨bN, l0, l0.length⟩] false 5 0 keep torn) ∧ Below W.heap.size W W' := by
  refine (Read_S (s := aN) h (ru7a hl hb hl2 hb2 hn hn1) (rn9a l0 keep torn)).mono ?_
  rintro e W' ⟨A, n, c, he, hn, hr, hs, hb, hcv⟩
  exact ⟨A, n, c, he, by rw [hn]; exact (Kd.R_reads' hr).2.2, hs, hb⟩
theorem rc0a (hl : l0.length ≤ 4096) (hb : ∀ x ∈ l0, 0 ≤ x ∧ x ≤ 255) (hl2 : l1.length ≤ 4096) (hb2 : ∀ x ∈ l1, 0 ≤ x ∧ x ≤ 255) (hn : n ≤ 9223372036854775807) (hn1 : ¬ n = 1) (h : St w S W g (BD [⟨bN, l0, l0.length⟩] false 5 0 keep torn)) : Calls Try.prog 13 #[.pointer (some ⟨g, 0, none⟩), .string ⟨#[98]⟩] W fun e W' => ∃ A n c, e = .returned (.tuple #[.slice A n c, .int .i64 0]) ∧ bK.C W' A n (l0) ∧ St w S W' g (BD [⟨bN, l0, l0.length⟩] false 5 0 keep torn) ∧ Below W.heap.size W W' := by
  refine (Read_S (s := bN) h (ru7a hl hb hl2 hb2 hn hn1) (rn9b l0 keep torn)).mono ?_
  rintro e W' ⟨A, n, c, he, hn, hr, hs, hb, hcv⟩
  exact ⟨A, n, c, he, by rw [hn]; exact (Kd.R_reads' hr).2.2, hs, hb⟩
theorem ru6b (hl : l0.length ≤ 4096) (hb : ∀ x ∈ l0, 0 ≤ x ∧ x ≤ 255) (hl2 : l1.length ≤ 4096) (hb2 : ∀ x ∈ l1, 0 ≤ x ∧ x ≤ 255) (hn : n ≤ 9223372036854775807) (hn1 : n = 1) (hk : 0 < keep) : (BD [⟨bN, l0, l0.length⟩] true 5 0 keep torn).Up 5 := by
  have := (ru5 (keep := keep) (torn := torn) hl hb hl2 hb2 hn).rename aN bN
  rw [rn6b l0 l1 n keep torn hn1 hk] at this
  exact this
theorem ru7b (hl : l0.length ≤ 4096) (hb : ∀ x ∈ l0, 0 ≤ x ∧ x ≤ 255) (hl2 : l1.length ≤ 4096) (hb2 : ∀ x ∈ l1, 0 ≤ x ∧ x ≤ 255) (hn : n ≤ 9223372036854775807) (hn1 : n = 1) (hk : 0 < keep) : (BD [⟨bN, l0, l0.length⟩] false 5 0 keep torn).Up 5 := by
  have := ((ru6b (keep := keep) (torn := torn) hl hb hl2 hb2 hn hn1 hk).off keep torn).on
  rw [off_bd2] at this
  exact this
theorem rc6b (hl : l0.length ≤ 4096) (hb : ∀ x ∈ l0, 0 ≤ x ∧ x ≤ 255) (hl2 : l1.length ≤ 4096) (hb2 : ∀ x ∈ l1, 0 ≤ x ∧ x ≤ 255) (hn : n ≤ 9223372036854775807) (hn1 : n = 1) (hk : 0 < keep) (h : St w S W g (rnA l0 l1 n keep torn)) : Calls Try.prog 18 #[.pointer (some ⟨g, 0, none⟩), .string ⟨#[97]⟩, .string ⟨#[98]⟩] W fun e W' => ∃ S', e = .returned (.int .i64 7) ∧ St w S' W' g (BD [⟨bN, l0, l0.length⟩] true 5 0 keep torn) := by
  refine (Rename_S (s := aN) (b := bN) h (ru5 hl hb hl2 hb2 hn) (by decide) (rn6b l0 l1 n keep torn hn1 hk)).mono ?_
  rintro e W' ⟨S', he, h2, _⟩
  exact ⟨S', he, h2⟩
theorem rc7b (hl : l0.length ≤ 4096) (hb : ∀ x ∈ l0, 0 ≤ x ∧ x ≤ 255) (hl2 : l1.length ≤ 4096) (hb2 : ∀ x ∈ l1, 0 ≤ x ∧ x ≤ 255) (hn : n ≤ 9223372036854775807) (hn1 : n = 1) (hk : 0 < keep) (h : St w S W g (BD [⟨bN, l0, l0.length⟩] true 5 0 keep torn)) : Calls Try.prog 16 #[.pointer (some ⟨g, 0, none⟩), .int .i64 keep, .bool torn] W fun e W' => ∃ S', e = .returned (.tuple #[]) ∧ St w S' W' g (BD [⟨bN, l0, l0.length⟩] true 5 0 keep torn) := by
  refine (Off_S h (ru6b hl hb hl2 hb2 hn hn1 hk) (off_bd2 _ _ _ _ _ _ _)).mono ?_
  rintro e W' ⟨S', he, h2, _⟩
  exact ⟨S', he, h2⟩
theorem rc8b  (h : St w S W g (BD [⟨bN, l0, l0.length⟩] true 5 0 keep torn)) : Calls Try.prog 17 #[.pointer (some ⟨g, 0, none⟩)] W fun e W' => ∃ S', e = .returned (.tuple #[]) ∧ St w S' W' g (BD [⟨bN, l0, l0.length⟩] false 5 0 keep torn) := by
  refine (On_S h (d' := BD [⟨bN, l0, l0.length⟩] false 5 0 keep torn) rfl).mono ?_
  rintro e W' ⟨S', he, h2, _⟩
  exact ⟨S', he, h2⟩
theorem rc9b (hl : l0.length ≤ 4096) (hb : ∀ x ∈ l0, 0 ≤ x ∧ x ≤ 255) (hl2 : l1.length ≤ 4096) (hb2 : ∀ x ∈ l1, 0 ≤ x ∧ x ≤ 255) (hn : n ≤ 9223372036854775807) (hn1 : n = 1) (hk : 0 < keep) (h : St w S W g (BD [⟨bN, l0, l0.length⟩] false 5 0 keep torn)) : Calls Try.prog 13 #[.pointer (some ⟨g, 0, none⟩), .string ⟨#[97]⟩] W fun e W' => ∃ A n c, e = .returned (.tuple #[.slice A n c, .int .i64 5]) ∧ bK.C W' A n ([]) ∧ St w S W' g (BD [⟨bN, l0, l0.length⟩] false 5 0 keep torn) ∧ Below W.heap.size W W' := by
  refine (Read_S (s := aN) h (ru7b hl hb hl2 hb2 hn hn1 hk) (rn9a l0 keep torn)).mono ?_
  rintro e W' ⟨A, n, c, he, hn, hr, hs, hb, hcv⟩
  exact ⟨A, n, c, he, by rw [hn]; exact (Kd.R_reads' hr).2.2, hs, hb⟩
theorem rc0b (hl : l0.length ≤ 4096) (hb : ∀ x ∈ l0, 0 ≤ x ∧ x ≤ 255) (hl2 : l1.length ≤ 4096) (hb2 : ∀ x ∈ l1, 0 ≤ x ∧ x ≤ 255) (hn : n ≤ 9223372036854775807) (hn1 : n = 1) (hk : 0 < keep) (h : St w S W g (BD [⟨bN, l0, l0.length⟩] false 5 0 keep torn)) : Calls Try.prog 13 #[.pointer (some ⟨g, 0, none⟩), .string ⟨#[98]⟩] W fun e W' => ∃ A n c, e = .returned (.tuple #[.slice A n c, .int .i64 0]) ∧ bK.C W' A n (l0) ∧ St w S W' g (BD [⟨bN, l0, l0.length⟩] false 5 0 keep torn) ∧ Below W.heap.size W W' := by
  refine (Read_S (s := bN) h (ru7b hl hb hl2 hb2 hn hn1 hk) (rn9b l0 keep torn)).mono ?_
  rintro e W' ⟨A, n, c, he, hn, hr, hs, hb, hcv⟩
  exact ⟨A, n, c, he, by rw [hn]; exact (Kd.R_reads' hr).2.2, hs, hb⟩
theorem ru6c (hl : l0.length ≤ 4096) (hb : ∀ x ∈ l0, 0 ≤ x ∧ x ≤ 255) (hl2 : l1.length ≤ 4096) (hb2 : ∀ x ∈ l1, 0 ≤ x ∧ x ≤ 255) (hn : n ≤ 9223372036854775807) (hn1 : n = 1) (hk : keep ≤ 0) : (BD [⟨aN, l0, l0.length⟩, ⟨bN, l1, l1.length⟩] true 5 0 keep torn).Up 5 := by
  have := (ru5 (keep := keep) (torn := torn) hl hb hl2 hb2 hn).rename aN bN
  rw [rn6c l0 l1 n keep torn hn1 (by omega)] at this
  exact this
theorem ru7c (hl : l0.length ≤ 4096) (hb : ∀ x ∈ l0, 0 ≤ x ∧ x ≤ 255) (hl2 : l1.length ≤ 4096) (hb2 : ∀ x ∈ l1, 0 ≤ x ∧ x ≤ 255) (hn : n ≤ 9223372036854775807) (hn1 : n = 1) (hk : keep ≤ 0) : (BD [⟨aN, l0, l0.length⟩, ⟨bN, l1, l1.length⟩] false 5 0 keep torn).Up 5 := by
  have := ((ru6c (keep := keep) (torn := torn) hl hb hl2 hb2 hn hn1 hk).off keep torn).on
  rw [off_bd2] at this
  exact this
theorem rc6c (hl : l0.length ≤ 4096) (hb : ∀ x ∈ l0, 0 ≤ x ∧ x ≤ 255) (hl2 : l1.length ≤ 4096) (hb2 : ∀ x ∈ l1, 0 ≤ x ∧ x ≤ 255) (hn : n ≤ 9223372036854775807) (hn1 : n = 1) (hk : keep ≤ 0) (h : St w S W g (rnA l0 l1 n keep torn)) : Calls Try.prog 18 #[.pointer (some ⟨g, 0, none⟩), .string ⟨#[97]⟩, .string ⟨#[98]⟩] W fun e W' => ∃ S', e = .returned (.int .i64 7) ∧ St w S' W' g (BD [⟨aN, l0, l0.length⟩, ⟨bN, l1, l1.length⟩] true 5 0 keep torn) := by
  refine (Rename_S (s := aN) (b := bN) h (ru5 hl hb hl2 hb2 hn) (by decide) (rn6c l0 l1 n keep torn hn1 (by omega))).mono ?_
  rintro e W' ⟨S', he, h2, _⟩
  exact ⟨S', he, h2⟩
theorem rc7c (hl : l0.length ≤ 4096) (hb : ∀ x ∈ l0, 0 ≤ x ∧ x ≤ 255) (hl2 : l1.length ≤ 4096) (hb2 : ∀ x ∈ l1, 0 ≤ x ∧ x ≤ 255) (hn : n ≤ 9223372036854775807) (hn1 : n = 1) (hk : keep ≤ 0) (h : St w S W g (BD [⟨aN, l0, l0.length⟩, ⟨bN, l1, l1.length⟩] true 5 0 keep torn)) : Calls Try.prog 16 #[.pointer (some ⟨g, 0, none⟩), .int .i64 keep, .bool torn] W fun e W' => ∃ S', e = .returned (.tuple #[]) ∧ St w S' W' g (BD [⟨aN, l0, l0.length⟩, ⟨bN, l1, l1.length⟩] true 5 0 keep torn) := by
  refine (Off_S h (ru6c hl hb hl2 hb2 hn hn1 hk) (off_bd2 _ _ _ _ _ _ _)).mono ?_
  rintro e W' ⟨S', he, h2, _⟩
  exact ⟨S', he, h2⟩
theorem rc8c  (h : St w S W g (BD [⟨aN, l0, l0.length⟩, ⟨bN, l1, l1.length⟩] true 5 0 keep torn)) : Calls Try.prog 17 #[.pointer (some ⟨g, 0, none⟩)] W fun e W' => ∃ S', e = .returned (.tuple #[]) ∧ St w S' W' g (BD [⟨aN, l0, l0.length⟩, ⟨bN, l1, l1.length⟩] false 5 0 keep torn) := by
  refine (On_S h (d' := BD [⟨aN, l0, l0.length⟩, ⟨bN, l1, l1.length⟩] false 5 0 keep torn) rfl).mono ?_
  rintro e W' ⟨S', he, h2, _⟩
  exact ⟨S', he, h2⟩
theorem rc9c (hl : l0.length ≤ 4096) (hb : ∀ x ∈ l0, 0 ≤ x ∧ x ≤ 255) (hl2 : l1.length ≤ 4096) (hb2 : ∀ x ∈ l1, 0 ≤ x ∧ x ≤ 255) (hn : n ≤ 9223372036854775807) (hn1 : n = 1) (hk : keep ≤ 0) (h : St w S W g (BD [⟨aN, l0, l0.length⟩, ⟨bN, l1, l1.length⟩] false 5 0 keep torn)) : Calls Try.prog 13 #[.pointer (some ⟨g, 0, none⟩), .string ⟨#[97]⟩] W fun e W' => ∃ A n c, e = .returned (.tuple #[.slice A n c, .int .i64 0]) ∧ bK.C W' A n (l0) ∧ St w S W' g (BD [⟨aN, l0, l0.length⟩, ⟨bN, l1, l1.length⟩] false 5 0 keep torn) ∧ Below W.heap.size W W' := by
  refine (Read_S (s := aN) h (ru7c hl hb hl2 hb2 hn hn1 hk) (rn9c l0 l1 keep torn)).mono ?_
  rintro e W' ⟨A, n, c, he, hn, hr, hs, hb, hcv⟩
  exact ⟨A, n, c, he, by rw [hn]; exact (Kd.R_reads' hr).2.2, hs, hb⟩
theorem rc0c (hl : l0.length ≤ 4096) (hb : ∀ x ∈ l0, 0 ≤ x ∧ x ≤ 255) (hl2 : l1.length ≤ 4096) (hb2 : ∀ x ∈ l1, 0 ≤ x ∧ x ≤ 255) (hn : n ≤ 9223372036854775807) (hn1 : n = 1) (hk : keep ≤ 0) (h : St w S W g (BD [⟨aN, l0, l0.length⟩, ⟨bN, l1, l1.length⟩] false 5 0 keep torn)) : Calls Try.prog 13 #[.pointer (some ⟨g, 0, none⟩), .string ⟨#[98]⟩] W fun e W' => ∃ A n c, e = .returned (.tuple #[.slice A n c, .int .i64 0]) ∧ bK.C W' A n (l1) ∧ St w S W' g (BD [⟨aN, l0, l0.length⟩, ⟨bN, l1, l1.length⟩] false 5 0 keep torn) ∧ Below W.heap.size W W' := by
  refine (Read_S (s := bN) h (ru7c hl hb hl2 hb2 hn hn1 hk) (rn9d l0 l1 keep torn)).mono ?_
  rintro e W' ⟨A, n, c, he, hn, hr, hs, hb, hcv⟩
  exact ⟨A, n, c, he, by rw [hn]; exact (Kd.R_reads' hr).2.2, hs, hb⟩
set_option maxHeartbeats 4000000 in
set_option maxRecDepth 100000 in
theorem ren_long (w : World) (h : 4096 < l0.length ∨ 4096 < l1.length) : Calls Try.prog 5 #[.slice A0 l0.length c0, .slice A1 l1.length c1, .int .i64 n, .int .i64 keep, .bool torn] w fun e w' => e = .returned (.bool true) ∧ Below w.heap.size w w' := by
  by_cases c1' : 4096 < l0.length
  · have c1b : decide ((4096 : Int) < (l0.length : Int)) = true := decide_eq_true (by omega)
    clear h
    go_enter Try.func5, Try.ntmps5
    go_wp2_with (first | (go_at_call 10; refine (alive_Q w).mono ?_; rintro e w1 ⟨rfl, hb⟩))
    go_ret
    exact ⟨rfl, hb⟩
  · have c2' : 4096 < l1.length := h.resolve_left c1'
    have c1b : decide ((4096 : Int) < (l0.length : Int)) = false := decide_eq_false (by omega)
    have c2b : decide ((4096 : Int) < (l1.length : Int)) = true := decide_eq_true (by omega)
    clear h
    go_enter Try.func5, Try.ntmps5
    go_wp2_with (first | (go_at_call 10; refine (alive_Q w).mono ?_; rintro e w1 ⟨rfl, hb⟩))
    go_ret
    exact ⟨rfl, hb⟩
set_option maxHeartbeats 4000000 in
set_option maxRecDepth 100000 in
theorem ren_a (hl : l0.length ≤ 4096) (hb : ∀ x ∈ l0, 0 ≤ x ∧ x ≤ 255) (hl2 : l1.length ≤ 4096) (hb2 : ∀ x ∈ l1, 0 ≤ x ∧ x ≤ 255) (hn : n ≤ 9223372036854775807) (hn1 : ¬ n = 1) (hC0 : bK.C w A0 l0.length l0) (hC1 : bK.C w A1 l1.length l1) : Calls Try.prog 5 #[.slice A0 l0.length c0, .slice A1 l1.length c1, .int .i64 n, .int .i64 keep, .bool torn] w fun e w' => e = .returned (.bool true) ∧ Below w.heap.size w w' := by
  have c1b : decide ((4096 : Int) < (l0.length : Int)) = false := decide_eq_false (by omega)
  have c2b : decide ((4096 : Int) < (l1.length : Int)) = false := decide_eq_false (by omega)
  have HL := Aside0.mk hl
  have HB := Aside0.mk hb
  have HL2 := Aside0.mk hl2
  have HB2 := Aside0.mk hb2
  have HN := Aside0.mk hn
  have HN1 := Aside0.mk hn1
  have HC0 := Aside0.mk hC0
  have HC1 := Aside0.mk hC1
  clear hl hb hl2 hb2 hn hC0 hC1 hn1
  obtain ⟨m0, hm0⟩ : ∃ m, m = l0.length := ⟨_, rfl⟩
  obtain ⟨m1, hm1⟩ : ∃ m, m = l1.length := ⟨_, rfl⟩
  have HM0 := Aside0.mk hm0
  have HM1 := Aside0.mk hm1
  rw [← hm0] at c1b
  rw [← hm1] at c2b
  rw [← hm0, ← hm1]
  clear hm0 hm1
  go_enter Try.func5, Try.ntmps5
  go_wp2_with (first
    | (go_at_call 10; refine (alive_Q w).mono ?_; rintro e w1 ⟨rfl, hb⟩; have HA := Aside0.mk hb; clear hb)
    | (go_at_call 11; refine (New_S' w w1 HA.out 1048576).mono ?_; rintro e w2 ⟨g, S0, rfl, hs, _, _⟩; have H0 := Aside0.mk hs; clear hs HA)
    | (go_at_call 12; have hq := rc1 (c0 := c0) HL.out HB.out HC0.out H0.out; rw [← HM0.out] at hq; refine hq.mono ?_; clear hq; rintro e w3 ⟨S1, rfl, hs⟩; have H1 := Aside0.mk hs; clear hs H0)
    | (go_at_call 15; refine (rc2 HL.out HB.out H1.out).mono ?_; rintro e w4 ⟨S2, rfl, hs⟩; have H2 := Aside0.mk hs; clear hs H1)
    | (go_at_call 12; have hq := rc3 (c1 := c1) HL.out HB.out HL2.out HB2.out HC1.out H2.out; rw [← HM1.out] at hq; refine hq.mono ?_; clear hq; rintro e w5 ⟨S3, rfl, hs⟩; have H3 := Aside0.mk hs; clear hs H2)
    | (go_at_call 15; refine (rc4 HL.out HB.out HL2.out HB2.out H3.out).mono ?_; rintro e w6 ⟨S4, rfl, hs⟩; have H4 := Aside0.mk hs; clear hs H3)
    | (go_at_call 14; refine (rc5 H4.out).mono ?_; rintro e w7 ⟨S5, rfl, hs⟩; have H5 := Aside0.mk hs; clear hs H4)
    | (go_at_call 18; refine (rc6a HL.out HB.out HL2.out HB2.out HN.out HN1.out H5.out).mono ?_; rintro e w8 ⟨S6, rfl, hs⟩; have H6 := Aside0.mk hs; clear hs H5)
    | (go_at_call 16; refine (rc7a HL.out HB.out HL2.out HB2.out HN.out HN1.out H6.out).mono ?_; rintro e w9 ⟨S7, rfl, hs⟩; have H7 := Aside0.mk hs; clear hs H6)
    | (go_at_call 17; refine (rc8a H7.out).mono ?_; rintro e w10 ⟨S8, rfl, hs⟩; have H8 := Aside0.mk hs; clear hs H7)
    | (go_at_call 13; refine (rc9a HL.out HB.out HL2.out HB2.out HN.out HN1.out H8.out).mono ?_; rintro e w11 ⟨X1, n1, q1, rfl, hx1, hs, _⟩; have H9 := Aside0.mk hs; have HX1 := Aside0.mk hx1; clear hs H8 hx1)
    | (go_at_call 13; refine (rc0a HL.out HB.out HL2.out HB2.out HN.out HN1.out H9.out).mono ?_; rintro e w12 ⟨X2, n2, q2, rfl, hx2, hs, hb12⟩; have H10 := Aside0.mk hs; have v2 := str_C (c := q2) hx2; have v1 := str_C (c := q1) (C_below HX1.out hb12); have v0 := str_C (c := c0) (C_below HC0.out hs.bel); have v3 := str_C (c := c1) (C_below HC1.out hs.bel); rw [← HM0.out] at v0; rw [← HM1.out] at v3; clear hs H9 hx2 hb12))
  go_ret
  exact ⟨by simp, H10.out.bel⟩
set_option maxHeartbeats 4000000 in
set_option maxRecDepth 100000 in
theorem ren_b (hl : l0.length ≤ 4096) (hb : ∀ x ∈ l0, 0 ≤ x ∧ x ≤ 255) (hl2 : l1.length ≤ 4096) (hb2 : ∀ x ∈ l1, 0 ≤ x ∧ x ≤ 255) (hn : n ≤ 9223372036854775807) (hn1 : n = 1) (hk : 0 < keep) (hC0 : bK.C w A0 l0.length l0) (hC1 : bK.C w A1 l1.length l1) : Calls Try.prog 5 #[.slice A0 l0.length c0, .slice A1 l1.length c1, .int .i64 n, .int .i64 keep, .bool torn] w fun e w' => e = .returned (.bool true) ∧ Below w.heap.size w w' := by
  have c1b : decide ((4096 : Int) < (l0.length : Int)) = false := decide_eq_false (by omega)
  have c2b : decide ((4096 : Int) < (l1.length : Int)) = false := decide_eq_false (by omega)
  have kb : decide ((0 : Int) < keep) = true := decide_eq_true hk
  have kb2 : decide (keep ≤ 0) = false := decide_eq_false (by omega)
  have HL := Aside0.mk hl
  have HB := Aside0.mk hb
  have HL2 := Aside0.mk hl2
  have HB2 := Aside0.mk hb2
  have HN := Aside0.mk hn
  have HN1 := Aside0.mk hn1
  have HK := Aside0.mk hk
  have HC0 := Aside0.mk hC0
  have HC1 := Aside0.mk hC1
  clear hl hb hl2 hb2 hn hC0 hC1 hn1 hk
  obtain ⟨m0, hm0⟩ : ∃ m, m = l0.length := ⟨_, rfl⟩
  obtain ⟨m1, hm1⟩ : ∃ m, m = l1.length := ⟨_, rfl⟩
  have HM0 := Aside0.mk hm0
  have HM1 := Aside0.mk hm1
  rw [← hm0] at c1b
  rw [← hm1] at c2b
  rw [← hm0, ← hm1]
  clear hm0 hm1
  go_enter Try.func5, Try.ntmps5
  go_wp2_with (first
    | (go_at_call 10; refine (alive_Q w).mono ?_; rintro e w1 ⟨rfl, hb⟩; have HA := Aside0.mk hb; clear hb)
    | (go_at_call 11; refine (New_S' w w1 HA.out 1048576).mono ?_; rintro e w2 ⟨g, S0, rfl, hs, _, _⟩; have H0 := Aside0.mk hs; clear hs HA)
    | (go_at_call 12; have hq := rc1 (c0 := c0) HL.out HB.out HC0.out H0.out; rw [← HM0.out] at hq; refine hq.mono ?_; clear hq; rintro e w3 ⟨S1, rfl, hs⟩; have H1 := Aside0.mk hs; clear hs H0)
    | (go_at_call 15; refine (rc2 HL.out HB.out H1.out).mono ?_; rintro e w4 ⟨S2, rfl, hs⟩; have H2 := Aside0.mk hs; clear hs H1)
    | (go_at_call 12; have hq := rc3 (c1 := c1) HL.out HB.out HL2.out HB2.out HC1.out H2.out; rw [← HM1.out] at hq; refine hq.mono ?_; clear hq; rintro e w5 ⟨S3, rfl, hs⟩; have H3 := Aside0.mk hs; clear hs H2)
    | (go_at_call 15; refine (rc4 HL.out HB.out HL2.out HB2.out H3.out).mono ?_; rintro e w6 ⟨S4, rfl, hs⟩; have H4 := Aside0.mk hs; clear hs H3)
    | (go_at_call 14; refine (rc5 H4.out).mono ?_; rintro e w7 ⟨S5, rfl, hs⟩; have H5 := Aside0.mk hs; clear hs H4)
    | (go_at_call 18; refine (rc6b HL.out HB.out HL2.out HB2.out HN.out HN1.out HK.out H5.out).mono ?_; rintro e w8 ⟨S6, rfl, hs⟩; have H6 := Aside0.mk hs; clear hs H5)
    | (go_at_call 16; refine (rc7b HL.out HB.out HL2.out HB2.out HN.out HN1.out HK.out H6.out).mono ?_; rintro e w9 ⟨S7, rfl, hs⟩; have H7 := Aside0.mk hs; clear hs H6)
    | (go_at_call 17; refine (rc8b H7.out).mono ?_; rintro e w10 ⟨S8, rfl, hs⟩; have H8 := Aside0.mk hs; clear hs H7)
    | (go_at_call 13; refine (rc9b HL.out HB.out HL2.out HB2.out HN.out HN1.out HK.out H8.out).mono ?_; rintro e w11 ⟨X1, n1, q1, rfl, hx1, hs, _⟩; have H9 := Aside0.mk hs; have HX1 := Aside0.mk hx1; clear hs H8 hx1)
    | (go_at_call 13; refine (rc0b HL.out HB.out HL2.out HB2.out HN.out HN1.out HK.out H9.out).mono ?_; rintro e w12 ⟨X2, n2, q2, rfl, hx2, hs, hb12⟩; have H10 := Aside0.mk hs; have v2 := str_C (c := q2) hx2; have v1 := str_C (c := q1) (C_below HX1.out hb12); have v0 := str_C (c := c0) (C_below HC0.out hs.bel); have v3 := str_C (c := c1) (C_below HC1.out hs.bel); rw [← HM0.out] at v0; rw [← HM1.out] at v3; clear hs H9 hx2 hb12))
  go_ret
  exact ⟨by simp, H10.out.bel⟩
set_option maxHeartbeats 4000000 in
set_option maxRecDepth 100000 in
theorem ren_c (hl : l0.length ≤ 4096) (hb : ∀ x ∈ l0, 0 ≤ x ∧ x ≤ 255) (hl2 : l1.length ≤ 4096) (hb2 : ∀ x ∈ l1, 0 ≤ x ∧ x ≤ 255) (hn : n ≤ 9223372036854775807) (hn1 : n = 1) (hk : keep ≤ 0) (hC0 : bK.C w A0 l0.length l0) (hC1 : bK.C w A1 l1.length l1) : Calls Try.prog 5 #[.slice A0 l0.length c0, .slice A1 l1.length c1, .int .i64 n, .int .i64 keep, .bool torn] w fun e w' => e = .returned (.bool true) ∧ Below w.heap.size w w' := by
  have c1b : decide ((4096 : Int) < (l0.length : Int)) = false := decide_eq_false (by omega)
  have c2b : decide ((4096 : Int) < (l1.length : Int)) = false := decide_eq_false (by omega)
  have kb : decide ((0 : Int) < keep) = false := decide_eq_false (by omega)
  have kb2 : decide (keep ≤ 0) = true := decide_eq_true (by omega)
  have HL := Aside0.mk hl
  have HB := Aside0.mk hb
  have HL2 := Aside0.mk hl2
  have HB2 := Aside0.mk hb2
  have HN := Aside0.mk hn
  have HN1 := Aside0.mk hn1
  have HK := Aside0.mk hk
  have HC0 := Aside0.mk hC0
  have HC1 := Aside0.mk hC1
  clear hl hb hl2 hb2 hn hC0 hC1 hn1 hk
  obtain ⟨m0, hm0⟩ : ∃ m, m = l0.length := ⟨_, rfl⟩
  obtain ⟨m1, hm1⟩ : ∃ m, m = l1.length := ⟨_, rfl⟩
  have HM0 := Aside0.mk hm0
  have HM1 := Aside0.mk hm1
  rw [← hm0] at c1b
  rw [← hm1] at c2b
  rw [← hm0, ← hm1]
  clear hm0 hm1
  go_enter Try.func5, Try.ntmps5
  go_wp2_with (first
    | (go_at_call 10; refine (alive_Q w).mono ?_; rintro e w1 ⟨rfl, hb⟩; have HA := Aside0.mk hb; clear hb)
    | (go_at_call 11; refine (New_S' w w1 HA.out 1048576).mono ?_; rintro e w2 ⟨g, S0, rfl, hs, _, _⟩; have H0 := Aside0.mk hs; clear hs HA)
    | (go_at_call 12; have hq := rc1 (c0 := c0) HL.out HB.out HC0.out H0.out; rw [← HM0.out] at hq; refine hq.mono ?_; clear hq; rintro e w3 ⟨S1, rfl, hs⟩; have H1 := Aside0.mk hs; clear hs H0)
    | (go_at_call 15; refine (rc2 HL.out HB.out H1.out).mono ?_; rintro e w4 ⟨S2, rfl, hs⟩; have H2 := Aside0.mk hs; clear hs H1)
    | (go_at_call 12; have hq := rc3 (c1 := c1) HL.out HB.out HL2.out HB2.out HC1.out H2.out; rw [← HM1.out] at hq; refine hq.mono ?_; clear hq; rintro e w5 ⟨S3, rfl, hs⟩; have H3 := Aside0.mk hs; clear hs H2)
    | (go_at_call 15; refine (rc4 HL.out HB.out HL2.out HB2.out H3.out).mono ?_; rintro e w6 ⟨S4, rfl, hs⟩; have H4 := Aside0.mk hs; clear hs H3)
    | (go_at_call 14; refine (rc5 H4.out).mono ?_; rintro e w7 ⟨S5, rfl, hs⟩; have H5 := Aside0.mk hs; clear hs H4)
    | (go_at_call 18; refine (rc6c HL.out HB.out HL2.out HB2.out HN.out HN1.out HK.out H5.out).mono ?_; rintro e w8 ⟨S6, rfl, hs⟩; have H6 := Aside0.mk hs; clear hs H5)
    | (go_at_call 16; refine (rc7c HL.out HB.out HL2.out HB2.out HN.out HN1.out HK.out H6.out).mono ?_; rintro e w9 ⟨S7, rfl, hs⟩; have H7 := Aside0.mk hs; clear hs H6)
    | (go_at_call 17; refine (rc8c H7.out).mono ?_; rintro e w10 ⟨S8, rfl, hs⟩; have H8 := Aside0.mk hs; clear hs H7)
    | (go_at_call 13; refine (rc9c HL.out HB.out HL2.out HB2.out HN.out HN1.out HK.out H8.out).mono ?_; rintro e w11 ⟨X1, n1, q1, rfl, hx1, hs, _⟩; have H9 := Aside0.mk hs; have HX1 := Aside0.mk hx1; clear hs H8 hx1)
    | (go_at_call 13; refine (rc0c HL.out HB.out HL2.out HB2.out HN.out HN1.out HK.out H9.out).mono ?_; rintro e w12 ⟨X2, n2, q2, rfl, hx2, hs, hb12⟩; have H10 := Aside0.mk hs; have v2 := str_C (c := q2) hx2; have v1 := str_C (c := q1) (C_below HX1.out hb12); have v0 := str_C (c := c0) (C_below HC0.out hs.bel); have v3 := str_C (c := c1) (C_below HC1.out hs.bel); rw [← HM0.out] at v0; rw [← HM1.out] at v3; clear hs H9 hx2 hb12))
  go_ret
  exact ⟨by simp, H10.out.bel⟩
end
theorem Renames_Q (A0 : Option Addr) (c0 : Nat) (l0 : List Int) (A1 : Option Addr) (c1 : Nat) (l1 : List Int) (n keep : Int) (torn : Bool) (w : World) (hC0 : bK.C w A0 l0.length l0) (hC1 : bK.C w A1 l1.length l1) (hb0 : ∀ x ∈ l0, 0 ≤ x ∧ x ≤ 255) (hb1 : ∀ x ∈ l1, 0 ≤ x ∧ x ≤ 255) (hn : n ≤ 9223372036854775807) :
    Calls Try.prog 5 #[.slice A0 l0.length c0, .slice A1 l1.length c1, .int .i64 n, .int .i64 keep, .bool torn] w fun e w' => e = .returned (.bool true) ∧ Below w.heap.size w w' := by
  by_cases h : 4096 < l0.length ∨ 4096 < l1.length
  · exact ren_long w h
  · by_cases h1 : n = 1
    · by_cases hk : 0 < keep
      · exact ren_b (by omega) hb0 (by omega) hb1 hn h1 hk hC0 hC1
      · exact ren_c (by omega) hb0 (by omega) hb1 hn h1 (by omega) hC0 hC1
    · exact ren_a (by omega) hb0 (by omega) hb1 hn h1 hC0 hC1
end Go.Proofs.Ytoedkemjidgbeaa.Dk
