/- DiskLoses: what a device says, and what came in. -/
import Derived.Test.YtoedkemjidgbeaaDkY
import Derived.Deep.Matrix
import Derived.Deep.Grids
namespace Go.Proofs.Ytoedkemjidgbeaa.Dk
open Go Go.RowKit Go.Proofs.YtoedkemjidgbeaaW.PrintWords Go.Proofs.YtoedkemjidgbeaaW.PrintLast Go.Proofs.YtoedkemjidgbeaaW.PrintMore Go.Proofs.YtoedkemjidgbeaaMy Go.Proofs.Ytoedkemjidgbeaa Go.Proofs.YtoedkemjidgbeaaPw Go.Proofs.Ytoedkemjidgbeaa.PAll
set_option linter.unusedVariables false
set_option linter.unusedSimpArgs false
def fileF (has : Bool) (all : List Int) (safe : Nat) : List Fl := if has then [⟨fN, all, safe⟩] else []
def lostF (keep : Int) (torn : Bool) (has : Bool) (all : List Int) (safe : Nat) : List Fl := if has then [lose1 keep torn ⟨fN, all, safe⟩] else []
/-- What a loop's state keeps to. -/
structure LI (keep : Int) (torn : Bool) (k : Nat) (has : Bool) (all : List Int) (safe : Nat) (acts fuse : Int) : Prop where
  up : (BD (fileF has all safe) false acts fuse keep torn).Up (2 * (k : Int))
  le : safe ≤ all.length
  big : all.length ≤ 8192
  byt : ∀ x ∈ all, 0 ≤ x ∧ x ≤ 255
  no : has = false → all = [] ∧ safe = 0
abbrev less (f : Int) : Int := if f = 0 then 0 else f - 1
section
variable {keep : Int} {torn has : Bool} {all xs : List Int} {safe k : Nat} {acts fuse : Int}
theorem lo_free (hn : has = false → all = [] ∧ safe = 0) : (BD (fileF has all safe) false acts fuse keep torn).free = 1048576 - (all.length : Int) := by
  unfold DS.free fileF
  cases has with
  | false => rw [(hn rfl).1]; rfl
  | true => simp [sizes]
theorem lo_ready : (BD (fileF has all safe) false acts fuse keep torn).ready fN = 0 := rfl
theorem lo_app (hn : has = false → all = [] ∧ safe = 0) : ((BD (fileF has all safe) false acts fuse keep torn).act.put { (BD (fileF has all safe) false acts fuse keep torn).fileOr fN with b := ((BD (fileF has all safe) false acts fuse keep torn).fileOr fN).b ++ xs }) = BD (fileF true (all ++ xs) safe) false (acts + 1) (less fuse) keep torn := by
  cases has with
  | false =>
    obtain ⟨h1, h2⟩ := hn rfl
    subst h1
    subst h2
    kernel_rfl
  | true => kernel_rfl
theorem lo1 (hn : has = false → all = [] ∧ safe = 0) (hl : all.length + xs.length ≤ 8192) (hf : ¬ fuse = 1) : (BD (fileF has all safe) false acts fuse keep torn).append fN xs = (0, BD (fileF true (all ++ xs) safe) false (acts + 1) (less fuse) keep torn) := by
  rw [append_ok lo_ready (by rw [lo_free hn]; omega) (decide_eq_false hf), lo_app hn]
theorem append_yes {d : DS} {s : ByteArray} {xs : List Int} (hr : d.ready s = 0) (hl : (xs.length : Int) ≤ d.free) (hg : d.goes = true) : d.append s xs = (7, (d.act.put { d.fileOr s with b := (d.fileOr s).b ++ xs }).ends) := by
  unfold DS.append
  rw [if_neg (fun h => h hr), if_neg (by omega)]
  simp only [hg]
  rfl
theorem lo2 (hn : has = false → all = [] ∧ safe = 0) (hl : all.length + xs.length ≤ 8192) (hf : fuse = 1) : (BD (fileF has all safe) false acts fuse keep torn).append fN xs = (7, BD (lostF keep torn true (all ++ xs) safe) true (acts + 1) 0 keep torn) := by
  rw [append_yes lo_ready (by rw [lo_free hn]; omega) (decide_eq_true hf), lo_app hn]
  rfl
theorem lo_there : (BD (fileF true all safe) false acts fuse keep torn).there fN = 0 := by kernel_rfl
theorem lo3 (hf : ¬ fuse = 1) : (BD (fileF true all safe) false acts fuse keep torn).sync fN = (0, BD (fileF true all all.length) false (acts + 1) (less fuse) keep torn) := by
  rw [sync_ok lo_there (decide_eq_false hf)]
  kernel_rfl
theorem sync_yes {d : DS} {s : ByteArray} (ht : d.there s = 0) (hg : d.goes = true) : d.sync s = (7, d.act.ends) := by
  unfold DS.sync
  rw [if_neg (fun h => h ht), hg]
  rfl
theorem lo4 (hf : fuse = 1) : (BD (fileF true all safe) false acts fuse keep torn).sync fN = (7, BD (lostF keep torn true all safe) true (acts + 1) 0 keep torn) := by
  rw [sync_yes lo_there (decide_eq_true hf)]
  rfl
theorem lo5 : (BD (fileF has all safe) false acts fuse keep torn).off keep torn = BD (lostF keep torn has all safe) true acts 0 keep torn := by cases has <;> rfl
theorem lo6 : (BD (lostF keep torn has all safe) true acts fuse keep torn).off keep torn = BD (lostF keep torn has all safe) true acts fuse keep torn := rfl
theorem lo7 : (BD (lostF keep torn has all safe) true acts fuse keep torn).on = BD (lostF keep torn has all safe) false acts fuse keep torn := rfl
theorem lo8 : (BD (lostF keep torn true all safe) false acts fuse keep torn).read fN = (loseB keep torn ⟨fN, all, safe⟩, 0) := read_ok (f := lose1 keep torn ⟨fN, all, safe⟩) (by kernel_rfl) (by kernel_rfl)
theorem lo9 : (BD (lostF keep torn false all safe) false acts fuse keep torn).read fN = ([], 5) := read_no (by kernel_rfl) (by kernel_rfl)
/-! What is left of a file. -/
theorem lost_len (h : safe ≤ all.length) : (loseB keep torn ⟨fN, all, safe⟩).length = safe + kept keep ⟨fN, all, safe⟩ := by
  have hk := kept_le keep ⟨fN, all, safe⟩ h
  simp only at hk
  unfold loseB
  split
  · rw [DS.turnLast_len, List.length_take, Nat.min_eq_left hk]
  · rw [List.length_take, Nat.min_eq_left hk]
theorem lost_take (h : safe ≤ all.length) (j : Nat) (hj : j ≤ (loseB keep torn ⟨fN, all, safe⟩).length) (hj2 : torn = true → safe < (loseB keep torn ⟨fN, all, safe⟩).length → j < (loseB keep torn ⟨fN, all, safe⟩).length) : (loseB keep torn ⟨fN, all, safe⟩).take j = all.take j := by
  have hk := kept_le keep ⟨fN, all, safe⟩ h
  have hl := lost_len (keep := keep) (torn := torn) h
  rw [hl] at hj hj2
  simp only at hk
  unfold loseB
  split
  · next hc =>
    have h1 := hj2 hc.1 (by omega)
    unfold turnLast
    rw [List.take_set_of_le (by rw [List.length_take]; simp only; omega), List.take_take, Nat.min_eq_left (by simp only; omega)]
  · rw [List.take_take, Nat.min_eq_left (by simp only; omega)]
theorem LI.start (n : Int) (hn : n ≤ 9223372036854775807) : LI keep torn 0 false [] 0 0 (max n 0) := ⟨(DS.Up.new 1048576).arm n keep torn hn, Nat.le_refl _, Nat.zero_le _, fun x hx => (by cases hx), fun _ => ⟨rfl, rfl⟩⟩
theorem LI.upA (h : LI keep torn k has all safe acts fuse) (hx : ∀ x ∈ xs, 0 ≤ x ∧ x ≤ 255) {r : Int} {d : DS} (he : (BD (fileF has all safe) false acts fuse keep torn).append fN xs = (r, d)) : d.Up (2 * (k : Int) + 1) := by
  have := h.up.append fN hx
  rw [he] at this
  exact this
theorem up_sync {d d' : DS} {r q : Int} (h : d.Up q) (he : d.sync fN = (r, d')) : d'.Up (q + 1) := by
  have := h.sync fN
  rw [he] at this
  exact this
theorem byt_app {a b : List Int} (ha : ∀ x ∈ a, 0 ≤ x ∧ x ≤ 255) (hb : ∀ x ∈ b, 0 ≤ x ∧ x ≤ 255) : ∀ x ∈ a ++ b, 0 ≤ x ∧ x ≤ 255 := fun x hx => (List.mem_append.1 hx).elim (ha x) (hb x)
/-- A round without a sync. -/
theorem LI.next1 (h : LI keep torn k has all safe acts fuse) (hx : ∀ x ∈ xs, 0 ≤ x ∧ x ≤ 255) (hl : all.length + xs.length ≤ 8192) (hf : ¬ fuse = 1) : LI keep torn (k + 1) true (all ++ xs) safe (acts + 1) (less fuse) :=
  ⟨(h.upA hx (lo1 h.no hl hf)).mono (by omega), by rw [List.length_append]; have := h.le; omega, by rw [List.length_append]; exact hl, byt_app h.byt hx, fun e => (by cases e)⟩
/-- .. with one. -/
theorem LI.next2 (h : LI keep torn k has all safe acts fuse) (hx : ∀ x ∈ xs, 0 ≤ x ∧ x ≤ 255) (hl : all.length + xs.length ≤ 8192) (hf : ¬ fuse = 1) (hf2 : ¬ less fuse = 1) : LI keep torn (k + 1) true (all ++ xs) (all ++ xs).length (acts + 1 + 1) (less (less fuse)) :=
  ⟨(up_sync (h.upA hx (lo1 h.no hl hf)) (lo3 hf2)).mono (by omega), Nat.le_refl _, by rw [List.length_append]; exact hl, byt_app h.byt hx, fun e => (by cases e)⟩
end
/-! What came in. -/
section
variable {H : Type} {enc : TypeId × Value → H} {W : World} {base : Nat} {held : Bool} {d : DataW H} {ps : List MemPlace}
/-- Texts among a law's arguments. -/
structure Texts (W : World) (a : Option Addr) (len : Nat) (A : Nat → Option Addr) (T : Nat → List Int) (C : Nat → Nat) : Prop where
  at_ : ∀ r, r < len → ∃ ad, a = some ad ∧ W.cell? (ad.add r) = some (.slice (A r) (T r).length (C r)) ∧ bK.C W (A r) (T r).length (T r) ∧ (∀ x ∈ T r, 0 ≤ x ∧ x ≤ 255) ∧ (T r).length ≤ 140737488351232
theorem mem_weightsAll {P : Program} {e : TypeId} : ∀ {l : List (DataW H)} {y : DataW H}, y ∈ l → ∀ n ∈ DataW.weights P e y, n ∈ DataW.weightsAll P e l
  | [], y, hy, _, _ => by cases hy
  | a :: l, y, hy, n, hn => by
    simp only [DataW.weightsAll, List.mem_append]
    rcases List.mem_cons.1 hy with rfl | h
    · exact .inl hn
    · exact .inr (mem_weightsAll h n hn)
theorem texts_arg {a : Option Addr} {len cap : Nat} {ts : List TypeId} {ds : List (DataW H)} {j : Nat} (hsz : (DataW.weightsEach Try.prog ts ds).all (· ≤ reachBytes) = true) (ht : ts[j]? = some 31) (hd : ds[j]? = some d) (h : DataW.Trod enc Try.prog W base (fun _ => true) held 31 (.slice a len cap) d ps) : ∃ A T C, Texts W a len A T C := by
  obtain ⟨fuel, hf⟩ := h
  rcases Deep.open_int_rows Try.underlying31 Try.underlying22 Try.underlying5 (by kernel_rfl) (by kernel_rfl) hf with ⟨hcs, _⟩ | ⟨ad, l, c, A, L, C, Z, hcs, _, hl, hm, hxe, hall⟩
  · simp [Value.cells] at hcs
    obtain ⟨rfl, rfl, rfl⟩ := hcs
    exact ⟨fun _ => none, fun _ => [], fun _ => 0, ⟨fun r hr => by omega⟩⟩
  · simp [Value.cells] at hcs
    obtain ⟨rfl, rfl, rfl⟩ := hcs
    have hd2 := (Prod.mk.inj hxe).1
    have hwt : ∀ r, r < len → ∀ x, A r = some x → (Z r).length ≤ 140737488351232 := by
      intro r hr x hx
      have hm1 : (Z r).length ∈ DataW.weights Try.prog 22 (Deep.intRow (H := H) .u8 (A r) (L r) (Z r)) := by
        unfold Deep.intRow
        rw [hx]
        simp only [DataW.weights, Try.underlying22, List.mem_cons]
        refine .inl ?_
        rw [show Try.prog.bytesOf 5 = 1 by kernel_rfl]
        simp only [ChangeShapes.lits, List.length_map, List.length_take, List.length_drop, Nat.mul_one]
        have h2 := (hall r (Nat.lt_of_lt_of_le hr hl)).2
        omega
      have hm2 := mem_weightsAll (P := Try.prog) (e := 22) (l := (List.range len).map fun r => Deep.intRow (H := H) .u8 (A r) (L r) (Z r)) (List.mem_map.2 ⟨r, List.mem_range.2 hr, rfl⟩) _ hm1
      have h9 := List.all_eq_true.1 hsz _ (DataW.weights_mem_each ht hd (Z r).length (by
        rw [hd2]
        simp only [DataW.weights, Try.underlying31, List.mem_cons, List.mem_append]
        exact .inr (.inl hm2)))
      exact of_decide_eq_true h9
    have each : ∀ r, r < len → ∃ l : List Int, L r = l.length ∧ bK.C W (A r) l.length l ∧ (∀ x ∈ l, 0 ≤ x ∧ x ≤ 255) ∧ l.length ≤ 140737488351232 := by
      intro r hr
      obtain ⟨h1, h2, h3, h4, h5, h6, h7⟩ := hall r (Nat.lt_of_lt_of_le hr hl)
      have hrow : (A r = none ∧ L r = 0 ∧ C r = 0 ∧ Z r = []) ∨ ∃ x, A r = some x ∧ L r ≤ C r ∧ C r ≤ maxLen ∧ (Z r).length = C r ∧ (∀ i, i < (Z r).length → W.cell? (x.add i) = some (.int .u8 ((Z r).getD i 0))) ∧ ∀ n ∈ Z r, (Lit.int .u8 n).wf = true := by
        cases e : A r with
        | none =>
          have := h6 e
          exact .inl ⟨rfl, by omega, this, List.eq_nil_of_length_eq_zero (by omega)⟩
        | some x => exact .inr ⟨x, rfl, h2, h3, h4, fun i hi => (h7 x e).2 i (by omega), h5⟩
      obtain ⟨l0, e1, hr0, hm0, hw0, hc0⟩ := ReadsInt.ofRowC hrow
      refine ⟨l0, e1, Kd.C_of_reads (d := (0 : Int)) (h1 := fun _ => rfl) hr0, byt_le hw0, ?_⟩
      cases e : A r with
      | none => have := h6 e; omega
      | some x => have := hwt r hr x e; omega
    obtain ⟨T, hT⟩ := Deep.choose_lt each
    refine ⟨A, T, C, ⟨fun r hr => ?_⟩⟩
    obtain ⟨e1, e2, e3⟩ := hT r hr
    have h1 := (hall r (Nat.lt_of_lt_of_le hr hl)).1
    rw [e1] at h1
    exact ⟨ad, rfl, h1, e2, e3⟩
structure Flags (W : World) (a : Option Addr) (len : Nat) (B : Nat → Bool) : Prop where
  at_ : ∀ r, r < len → ∃ ad, a = some ad ∧ W.cell? (ad.add r) = some (.bool (B r))
theorem flags_arg {a : Option Addr} {len cap : Nat} (h : DataW.Trod enc Try.prog W base (fun _ => true) held 32 (.slice a len cap) d ps) : ∃ B, Flags W a len B := by
  obtain ⟨fuel, hf⟩ := h
  rcases Deep.open_bools Try.underlying32 Try.underlying4 (by kernel_rfl) hf with ⟨hcs, _⟩ | ⟨ad, l, c, B, hcs, _, hl, hm, _, hall⟩
  · simp [Value.cells] at hcs
    obtain ⟨rfl, rfl, rfl⟩ := hcs
    exact ⟨fun _ => false, ⟨fun r hr => by omega⟩⟩
  · simp [Value.cells] at hcs
    obtain ⟨rfl, rfl, rfl⟩ := hcs
    exact ⟨B, ⟨fun r hr => ⟨ad, rfl, hall r (Nat.lt_of_lt_of_le hr hl)⟩⟩⟩
end
end Go.Proofs.Ytoedkemjidgbeaa.Dk
