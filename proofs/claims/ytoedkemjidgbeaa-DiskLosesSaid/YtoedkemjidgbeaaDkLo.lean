/- DiskLoses. -/
import Derived.Test.YtoedkemjidgbeaaDkZ
namespace Go.Proofs.Ytoedkemjidgbeaa.Dk
open Go Go.RowKit Go.Proofs.YtoedkemjidgbeaaW.PrintWords Go.Proofs.YtoedkemjidgbeaaW.PrintLast Go.Proofs.YtoedkemjidgbeaaW.PrintMore Go.Proofs.YtoedkemjidgbeaaMy Go.Proofs.Ytoedkemjidgbeaa Go.Proofs.YtoedkemjidgbeaaPw Go.Proofs.Ytoedkemjidgbeaa.PAll
attribute [local go_sem] max2_m min2_m max_two min_two
set_option linter.unusedVariables false
set_option linter.unusedSimpArgs false
theorem str_size (l : List Int) : (strOfNums l).size = l.length := by simp [strOfNums, ByteArray.size]
theorem str_take {l : List Int} (h : ∀ x ∈ l, 0 ≤ x ∧ x ≤ 255) (n : Nat) : (strOfNums l).extract 0 n = strOfNums (l.take n) := by
  have hb : Byt l := fun x hx => by have := h x hx; omega
  apply bytes_inj
  rw [bytesOf_extract, bytes_str hb, bytes_str (byt_take hb n)]
  rfl
theorem add_w {a b : Nat} (h : a ≤ 9000) (hb : b ≤ 4294967296) : wrap64 ((a : Int) + (b : Int)) = (a : Int) + (b : Int) := w64 (by omega) (by omega)
theorem big_lt {a b : Nat} (h : 8192 < a + b) : (8192 : Int) < (a : Int) + (b : Int) := by omega
theorem big_of {a b : Nat} (h : (8192 : Int) < (a : Int) + (b : Int)) : 8192 < a + b := by omega
theorem add_w' {a b : Nat} (h : a ≤ 8192) (hb : b ≤ 140737488351232) : wrap64 ((a : Int) + (b : Int)) = (a : Int) + (b : Int) := w64 (by omega) (by omega)
theorem step_val40 {k m : Nat} (h : k < m) (hm : m ≤ 40) : Value.int .i64 (wrap64 ((k : Int) + 1)) = .int .i64 ((k + 1 : Nat) : Int) := step_val h (Nat.le_trans hm (by decide))
theorem step_meas40 {k m : Nat} (h : k < m) (hm : m ≤ 40) : m - (intOf (.int .i64 (wrap64 ((k : Int) + 1)))).toNat < m - (intOf (.int .i64 (k : Int))).toNat := step_meas h (Nat.le_trans hm (by decide))
theorem len_st {s : ByteArray} {l : List Int} (h : s = strOfNums l) : (s.size : Int) = (l.length : Int) := by rw [h, str_size]
theorem no_big {a b : Nat} (h : a + b ≤ 8192) : ¬ 9223372036854775807 < a + b := by omega
theorem sub_w {a : Nat} (h : a ≤ 9000) (h0 : 0 < a) : wrap64 ((a : Int) - 1) = ((a - 1 : Nat) : Int) := by
  rw [w64 (by omega) (by omega)]
  omega
section
variable {w W : World} {S : Nat → Prop} {g : Nat} {keep : Int} {torn has : Bool} {all xs : List Int} {safe k : Nat} {acts fuse : Int} {A : Option Addr} {c : Nat} {d : DS}
theorem two_le {k : Nat} (h : k ≤ 40) : 2 * (k : Int) + 1 < 4611686018427387904 := by omega
theorem two_lt {k : Nat} (h : k ≤ 40) : 2 * (k : Int) < 4611686018427387904 := by omega
theorem lc1 (hi : LI keep torn k has all safe acts fuse) (hk : k ≤ 40) (hx : ∀ x ∈ xs, 0 ≤ x ∧ x ≤ 255) (hl : all.length + xs.length ≤ 8192) (hC : bK.C w A xs.length xs) (hf : ¬ fuse = 1) (h : St w S W g (BD (fileF has all safe) false acts fuse keep torn)) : Calls Try.prog 12 #[.pointer (some ⟨g, 0, none⟩), .string ⟨#[102]⟩, .slice A xs.length c] W fun e W' => ∃ S', e = .returned (.int .i64 0) ∧ St w S' W' g (BD (fileF true (all ++ xs) safe) false (acts + 1) (less fuse) keep torn) := by
  refine (Append_S (s := fN) h hi.up (two_lt hk) (Row.arg hC h) (by omega) hx (lo1 hi.no hl hf)).mono ?_
  rintro e W' ⟨S', he, h2, _⟩
  exact ⟨S', he, h2⟩
theorem lc2 (hi : LI keep torn k has all safe acts fuse) (hk : k ≤ 40) (hx : ∀ x ∈ xs, 0 ≤ x ∧ x ≤ 255) (hl : all.length + xs.length ≤ 8192) (hC : bK.C w A xs.length xs) (hf : fuse = 1) (h : St w S W g (BD (fileF has all safe) false acts fuse keep torn)) : Calls Try.prog 12 #[.pointer (some ⟨g, 0, none⟩), .string ⟨#[102]⟩, .slice A xs.length c] W fun e W' => ∃ S', e = .returned (.int .i64 7) ∧ St w S' W' g (BD (lostF keep torn true (all ++ xs) safe) true (acts + 1) 0 keep torn) := by
  refine (Append_S (s := fN) h hi.up (two_lt hk) (Row.arg hC h) (by omega) hx (lo2 hi.no hl hf)).mono ?_
  rintro e W' ⟨S', he, h2, _⟩
  exact ⟨S', he, h2⟩
theorem lc3 (hi : LI keep torn k has all safe acts fuse) (hk : k ≤ 40) (hx : ∀ x ∈ xs, 0 ≤ x ∧ x ≤ 255) (hl : all.length + xs.length ≤ 8192) (hf : ¬ fuse = 1) (hf2 : ¬ less fuse = 1) (h : St w S W g (BD (fileF true (all ++ xs) safe) false (acts + 1) (less fuse) keep torn)) : Calls Try.prog 15 #[.pointer (some ⟨g, 0, none⟩), .string ⟨#[102]⟩] W fun e W' => ∃ S', e = .returned (.int .i64 0) ∧ St w S' W' g (BD (fileF true (all ++ xs) (all ++ xs).length) false (acts + 1 + 1) (less (less fuse)) keep torn) := by
  refine (Sync_S (s := fN) h (hi.upA hx (lo1 hi.no hl hf)) (two_le hk) (lo3 hf2)).mono ?_
  rintro e W' ⟨S', he, h2, _⟩
  exact ⟨S', he, h2⟩
theorem lc4 (hi : LI keep torn k has all safe acts fuse) (hk : k ≤ 40) (hx : ∀ x ∈ xs, 0 ≤ x ∧ x ≤ 255) (hl : all.length + xs.length ≤ 8192) (hf : ¬ fuse = 1) (hf2 : less fuse = 1) (h : St w S W g (BD (fileF true (all ++ xs) safe) false (acts + 1) (less fuse) keep torn)) : Calls Try.prog 15 #[.pointer (some ⟨g, 0, none⟩), .string ⟨#[102]⟩] W fun e W' => ∃ S', e = .returned (.int .i64 7) ∧ St w S' W' g (BD (lostF keep torn true (all ++ xs) safe) true (acts + 1 + 1) 0 keep torn) := by
  refine (Sync_S (s := fN) h (hi.upA hx (lo1 hi.no hl hf)) (two_le hk) (lo4 hf2)).mono ?_
  rintro e W' ⟨S', he, h2, _⟩
  exact ⟨S', he, h2⟩
/-- Where the loop has ended. -/
structure LEnd (w : World) (keep : Int) (torn has : Bool) (all : List Int) (safe : Nat) (acts fuse : Int) (d : DS) : Prop where
  off : d.off keep torn = BD (lostF keep torn has all safe) true acts fuse keep torn
  up : d.Up 100
  le : safe ≤ all.length
  big : all.length ≤ 8192
  byt : ∀ x ∈ all, 0 ≤ x ∧ x ≤ 255
  no : has = false → all = []
theorem le1 (hi : LI keep torn k has all safe acts fuse) (hk : k ≤ 40) : LEnd w keep torn has all safe acts 0 (BD (fileF has all safe) false acts fuse keep torn) := ⟨lo5, hi.up.mono (by omega), hi.le, hi.big, hi.byt, fun h => (hi.no h).1⟩
theorem le2 (hi : LI keep torn k has all safe acts fuse) (hk : k ≤ 40) (hx : ∀ x ∈ xs, 0 ≤ x ∧ x ≤ 255) (hl : all.length + xs.length ≤ 8192) (hf : fuse = 1) : LEnd w keep torn true (all ++ xs) safe (acts + 1) 0 (BD (lostF keep torn true (all ++ xs) safe) true (acts + 1) 0 keep torn) :=
  ⟨lo6, (hi.upA hx (lo2 hi.no hl hf)).mono (by omega), by rw [List.length_append]; have := hi.le; omega, by rw [List.length_append]; exact hl, byt_app hi.byt hx, fun h => (by cases h)⟩
theorem le3 (hi : LI keep torn k has all safe acts fuse) (hk : k ≤ 40) (hx : ∀ x ∈ xs, 0 ≤ x ∧ x ≤ 255) (hl : all.length + xs.length ≤ 8192) (hf : ¬ fuse = 1) (hf2 : less fuse = 1) : LEnd w keep torn true (all ++ xs) safe (acts + 1 + 1) 0 (BD (lostF keep torn true (all ++ xs) safe) true (acts + 1 + 1) 0 keep torn) :=
  ⟨lo6, (up_sync (hi.upA hx (lo1 hi.no hl hf)) (lo4 hf2)).mono (by omega), by rw [List.length_append]; have := hi.le; omega, by rw [List.length_append]; exact hl, byt_app hi.byt hx, fun h => (by cases h)⟩
theorem LEnd.up2 (h : LEnd w keep torn has all safe acts fuse d) : (BD (lostF keep torn has all safe) false acts fuse keep torn).Up 100 := by
  have := (h.up.off keep torn).on
  rw [h.off] at this
  exact this
theorem lc5 (hE : LEnd w keep torn has all safe acts fuse d) (h : St w S W g d) : Calls Try.prog 16 #[.pointer (some ⟨g, 0, none⟩), .int .i64 keep, .bool torn] W fun e W' => ∃ S', e = .returned (.tuple #[]) ∧ St w S' W' g (BD (lostF keep torn has all safe) true acts fuse keep torn) := by
  refine (Off_S h hE.up hE.off).mono ?_
  rintro e W' ⟨S', he, h2, _⟩
  exact ⟨S', he, h2⟩
theorem lc6 (h : St w S W g (BD (lostF keep torn has all safe) true acts fuse keep torn)) : Calls Try.prog 17 #[.pointer (some ⟨g, 0, none⟩)] W fun e W' => ∃ S', e = .returned (.tuple #[]) ∧ St w S' W' g (BD (lostF keep torn has all safe) false acts fuse keep torn) := by
  refine (On_S h (d' := BD (lostF keep torn has all safe) false acts fuse keep torn) rfl).mono ?_
  rintro e W' ⟨S', he, h2, _⟩
  exact ⟨S', he, h2⟩
theorem lc7 (hE : LEnd w keep torn true all safe acts fuse d) {X : List Int} (hX : loseB keep torn ⟨fN, all, safe⟩ = X) (h : St w S W g (BD (lostF keep torn true all safe) false acts fuse keep torn)) : Calls Try.prog 13 #[.pointer (some ⟨g, 0, none⟩), .string ⟨#[102]⟩] W fun e W' => ∃ A c, e = .returned (.tuple #[.slice A X.length c, .int .i64 0]) ∧ bK.C W' A X.length X ∧ X.length ≤ c ∧ Below w.heap.size w W' := by
  subst hX
  refine (Read_S (s := fN) h hE.up2 lo8).mono ?_
  rintro e W' ⟨A, m, c, he, hm, hr, hs, hb, hcv⟩
  subst hm
  refine ⟨A, c, he, (Kd.R_reads' hr).2.2, ?_, hs.bel⟩
  rcases R_shape hr with ⟨e1, e2⟩ | ⟨q, cap, e1, h1, h2⟩
  · rw [e2]; exact Nat.zero_le _
  · injection e1 with _ _ e1
    rw [e1]; exact h2
theorem lc8 (hE : LEnd w keep torn false all safe acts fuse d) (h : St w S W g (BD (lostF keep torn false all safe) false acts fuse keep torn)) : Calls Try.prog 13 #[.pointer (some ⟨g, 0, none⟩), .string ⟨#[102]⟩] W fun e W' => ∃ A m c, e = .returned (.tuple #[.slice A m c, .int .i64 5]) ∧ Below w.heap.size w W' := by
  refine (Read_S (s := fN) h hE.up2 lo9).mono ?_
  rintro e W' ⟨A, m, c, he, hm, hr, hs, hb, hcv⟩
  exact ⟨A, m, c, he, hs.bel⟩
/-- What is read at the end. -/
structure LX (torn : Bool) (all X : List Int) (safe la mx : Nat) : Prop where
  ela : la = all.length
  emx : mx = X.length
  lo : safe ≤ mx
  hi : mx ≤ la
  big : la ≤ 8192
  byt : ∀ x ∈ all, 0 ≤ x ∧ x ≤ 255
  take : ∀ j, j ≤ mx → (torn = true → safe < mx → j < mx) → X.take j = all.take j
theorem lt_no {a b : Nat} (h : a ≤ b) : ¬ (b : Int) < (a : Int) := by omega
theorem LX.cut {X : List Int} {la mx : Nat} (h : LX torn all X safe la mx) (hc : mx ≤ c) (j : Nat) (hj : j ≤ mx) : ∀ W : World, (Instr.slice 22 (.slice A mx c) none (some (.int .i64 (j : Int))) none).run Try.prog W = .ok (.slice A j c) W := by
  obtain ⟨i0, hi0, _, hsz, _⟩ := info_parts infoB
  have h1 := cut_to (P := Try.prog) 22 5 .i64 Try.underlying22 hi0 A mx c (j : Int) (by omega) (by omega) hc
  rw [Int.toNat_natCast] at h1
  exact h1
theorem LX.C {X : List Int} {la mx : Nat} {W W' : World} (h : LX torn all X safe la mx) (hC : bK.C W A mx X) (j : Nat) (hj : j ≤ mx) (hb : Below W.heap.size W W') : bK.C W' A j (X.take j) := by
  have h2 := h.emx
  subst h2
  have h1 := Kd.C_take (m := j) (C_below hC hb) hj
  rw [List.length_take, Nat.min_eq_left hj] at h1
  exact h1
theorem LX.cutS {X : List Int} {la mx : Nat} (h : LX torn all X safe la mx) {st s : ByteArray} (hs : st = strOfNums all) (j : Nat) (hj : j ≤ la) (he : s = strOfNums (all.take j)) : ∀ W : World, (Instr.slice 9 (.string st) none (some (.int .i64 (j : Int))) none).run Try.prog W = .ok (.string s) W := by
  intro W
  have h1 := run_slice_string_h (P := Try.prog) W 9 st Try.underlying9 .i64 (j : Int) (by omega) (by rw [hs, str_size]; have := h.ela; omega)
  rw [h1, Int.toNat_natCast, hs, str_take h.byt j, he]
theorem mx_le {X : List Int} {la mx : Nat} (h : LX torn all X safe la mx) : mx ≤ 9000 := Nat.le_trans h.hi (Nat.le_trans h.big (by decide))
theorem le_la {X : List Int} {la mx : Nat} (h : LX torn all X safe la mx) : mx ≤ la := h.hi
theorem LX.str {X : List Int} {la mx : Nat} (h : LX torn all X safe la mx) (j : Nat) : (strOfNums all).extract 0 j = strOfNums (all.take j) := str_take h.byt j
theorem LEnd.x (h : LEnd w keep torn true all safe acts fuse d) : LX torn all (loseB keep torn ⟨fN, all, safe⟩) safe all.length (loseB keep torn ⟨fN, all, safe⟩).length := by
  have hl := lost_len (keep := keep) (torn := torn) h.le
  have hk := kept_le keep ⟨fN, all, safe⟩ h.le
  simp only at hk
  exact ⟨rfl, rfl, by omega, by omega, h.big, h.byt, fun j hj h2 => lost_take h.le j hj h2⟩
end
end Go.Proofs.Ytoedkemjidgbeaa.Dk
