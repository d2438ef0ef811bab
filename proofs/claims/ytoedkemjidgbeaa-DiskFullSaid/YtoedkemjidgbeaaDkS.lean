/- A walk with one device; alive. -/
import Derived.Test.YtoedkemjidgbeaaDkR
namespace Go.Proofs.Ytoedkemjidgbeaa.Dk
open Go Go.RowKit Go.Proofs.YtoedkemjidgbeaaW.PrintWords Go.Proofs.YtoedkemjidgbeaaW.PrintLast Go.Proofs.YtoedkemjidgbeaaW.PrintMore Go.Proofs.YtoedkemjidgbeaaMy Go.Proofs.Ytoedkemjidgbeaa Go.Proofs.YtoedkemjidgbeaaPw Go.Proofs.Ytoedkemjidgbeaa.PAll
attribute [local go_sem] max2_m min2_m max_two min_two
set_option linter.unusedVariables false
set_option linter.unusedSimpArgs false
/-- A device, of blocks that are newer than w0; nothing elder has turned. -/
structure St (w0 : World) (S : Nat → Prop) (W : World) (g : Nat) (d : DS) : Prop where
  dev : Dev S w0.heap.size W g d
  bel : Below w0.heap.size w0 W
section
variable {w0 W W' : World} {S S' : Nat → Prop} {g : Nat} {d d' : DS} {k r : Int} {A : Option Addr} {n c : Nat} {xs : List Int} {s : ByteArray}
theorem St.below (h : St w0 S W g d) (hb : Below W.heap.size W W') : St w0 S W' g d := ⟨h.dev.below hb, h.bel.trans (hb.mono h.bel.size)⟩
theorem St.next (h : St w0 S W g d) (hd : Dev S' w0.heap.size W' g d') (hs : Step S W S' W') : St w0 S' W' g d' := ⟨hd, h.bel.trans (hs.below h.dev.lo h.bel.size)⟩
theorem St.alloc (h : St w0 S W g d) (o : Obj) : St w0 S (W.alloc o) g d := h.below (below_alloc (Below.refl _ _) _)
theorem St.drew (h : St w0 S W g d) : St w0 S W.drew g d := h.below (below_drew1 (Below.refl _ _))
/-- A row that is written out. -/
theorem lit_row (h : St w0 S W g d) (xs : List Int) (hm : xs.length ≤ 9223372036854775807) : Row S (W.alloc (.cells (nums .u8 xs).toArray 5)) (some ⟨W.heap.size, 0, none⟩) xs.length xs :=
  Row.of (Kd.R_of_own (own_lit W W.heap.size 5 .u8 xs (Nat.le_refl _) hm) (ok := fun _ => True) (fun _ _ => trivial)) h.dev.hi
theorem New_S (w room) : Calls Try.prog 11 #[.int .i64 room] w fun e w' => ∃ g S, e = .returned (.pointer (some ⟨g, 0, none⟩)) ∧ St w S w' g (new room) := by
  refine (New_D w room).mono ?_
  rintro e w' ⟨g, S, rfl, h1, h2⟩
  exact ⟨g, S, rfl, h1, h2⟩
/-- .. with something made ahead. -/
theorem New_S' (w0 w : World) (hb : Below w0.heap.size w0 w) (room : Int) : Calls Try.prog 11 #[.int .i64 room] w fun e w' => ∃ g S, e = .returned (.pointer (some ⟨g, 0, none⟩)) ∧ St w0 S w' g (new room) ∧ (∀ k, S k → w.heap.size ≤ k) ∧ Below w.heap.size w w' := by
  refine (New_D w room).mono ?_
  rintro e w' ⟨g, S, rfl, h1, h2⟩
  exact ⟨g, S, rfl, ⟨⟨h1.at_, fun k hk => Nat.le_trans hb.size (h1.lo k hk), h1.hi⟩, hb.trans (h2.mono hb.size)⟩, h1.lo, h2⟩
theorem Append_S (h : St w0 S W g d) (hu : d.Up k) (hk : k < 4611686018427387904) (hx : Row S W A n xs) (hn : n ≤ 4294967296) (hxb : ∀ x ∈ xs, 0 ≤ x ∧ x ≤ 255) (he : d.append s xs = (r, d')) :
    Calls Try.prog 12 #[.pointer (some ⟨g, 0, none⟩), .string s, .slice A n c] W fun e W' => ∃ S', e = .returned (.int .i64 r) ∧ St w0 S' W' g d' ∧ Step S W S' W' := by
  refine (Append_D h.dev h.bel.size hu hk hx hn hxb he).mono ?_
  rintro e W' ⟨S', rfl, h1, h2⟩
  exact ⟨S', rfl, h.next h1 h2, h2⟩
theorem Sync_S (h : St w0 S W g d) (hu : d.Up k) (hk : k < 4611686018427387904) (he : d.sync s = (r, d')) :
    Calls Try.prog 15 #[.pointer (some ⟨g, 0, none⟩), .string s] W fun e W' => ∃ S', e = .returned (.int .i64 r) ∧ St w0 S' W' g d' ∧ Step S W S' W' := by
  refine (Sync_D h.dev h.bel.size hu hk he).mono ?_
  rintro e W' ⟨S', rfl, h1, h2⟩
  exact ⟨S', rfl, h.next h1 h2, h2⟩
theorem Cut_S (h : St w0 S W g d) (hu : d.Up k) (hk : k < 4611686018427387904) {j : Int} (he : d.cut s j = (r, d')) :
    Calls Try.prog 19 #[.pointer (some ⟨g, 0, none⟩), .string s, .int .i64 j] W fun e W' => ∃ S', e = .returned (.int .i64 r) ∧ St w0 S' W' g d' ∧ Step S W S' W' := by
  refine (Cut_D h.dev h.bel.size hu hk he).mono ?_
  rintro e W' ⟨S', rfl, h1, h2⟩
  exact ⟨S', rfl, h.next h1 h2, h2⟩
theorem Rename_S (h : St w0 S W g d) (hu : d.Up k) (hk : k < 4611686018427387904) {b : ByteArray} (he : d.rename s b = (r, d')) :
    Calls Try.prog 18 #[.pointer (some ⟨g, 0, none⟩), .string s, .string b] W fun e W' => ∃ S', e = .returned (.int .i64 r) ∧ St w0 S' W' g d' ∧ Step S W S' W' := by
  refine (Rename_D h.dev h.bel.size hu hk he).mono ?_
  rintro e W' ⟨S', rfl, h1, h2⟩
  exact ⟨S', rfl, h.next h1 h2, h2⟩
theorem Remove_S (h : St w0 S W g d) (hu : d.Up k) (hk : k < 4611686018427387904) (he : d.remove s = (r, d')) :
    Calls Try.prog 20 #[.pointer (some ⟨g, 0, none⟩), .string s] W fun e W' => ∃ S', e = .returned (.int .i64 r) ∧ St w0 S' W' g d' ∧ Step S W S' W' := by
  refine (Remove_D h.dev h.bel.size hu hk he).mono ?_
  rintro e W' ⟨S', rfl, h1, h2⟩
  exact ⟨S', rfl, h.next h1 h2, h2⟩
theorem Off_S (h : St w0 S W g d) (hu : d.Up k) {keep : Int} {torn : Bool} (he : d.off keep torn = d') :
    Calls Try.prog 16 #[.pointer (some ⟨g, 0, none⟩), .int .i64 keep, .bool torn] W fun e W' => ∃ S', e = .returned (.tuple #[]) ∧ St w0 S' W' g d' ∧ Step S W S' W' := by
  refine (Off_D h.dev h.bel.size hu he).mono ?_
  rintro e W' ⟨S', rfl, h1, h2⟩
  exact ⟨S', rfl, h.next h1 h2, h2⟩
theorem On_S (h : St w0 S W g d) (he : d.on = d') : Calls Try.prog 17 #[.pointer (some ⟨g, 0, none⟩)] W fun e W' => ∃ S', e = .returned (.tuple #[]) ∧ St w0 S' W' g d' ∧ Step S W S' W' := by
  refine (On_D h.dev h.bel.size).mono ?_
  rintro e W' ⟨S', rfl, h1, h2⟩
  exact ⟨S', rfl, he ▸ h.next h1 h2, h2⟩
theorem Arm_S (h : St w0 S W g d) {j keep : Int} {torn : Bool} (he : d.arm j keep torn = d') : Calls Try.prog 14 #[.pointer (some ⟨g, 0, none⟩), .int .i64 j, .int .i64 keep, .bool torn] W fun e W' => ∃ S', e = .returned (.tuple #[]) ∧ St w0 S' W' g d' ∧ Step S W S' W' := by
  refine (Arm_D h.dev h.bel.size).mono ?_
  rintro e W' ⟨S', rfl, h1, h2⟩
  exact ⟨S', rfl, he ▸ h.next h1 h2, h2⟩
/-- Read: the row is new memory, none of the device's. -/
theorem Read_S (h : St w0 S W g d) (hu : d.Up k) (he : d.read s = (xs, r)) :
    Calls Try.prog 13 #[.pointer (some ⟨g, 0, none⟩), .string s] W fun e W' => ∃ A n c, e = .returned (.tuple #[.slice A n c, .int .i64 r]) ∧ n = xs.length ∧ bK.R 5 W' W.heap.size (fun _ => True) (.slice A n c) xs ∧ St w0 S W' g d ∧ Below W.heap.size W W' ∧ (convert 22 9 (.slice A n c)).run Try.prog W' = .ok (.string (strOfNums xs)) W' := by
  refine (Read_D h.dev hu he).mono ?_
  rintro e W' ⟨A, c, rfl, h1, h2, h3⟩
  exact ⟨A, _, c, rfl, rfl, h1, h.below h3, h3, (Kd.C_string Try.underlying22 Try.underlying5 Try.underlying9 (Kd.R_reads' h1).2.2)⟩
end
/-! alive. -/
def fN : ByteArray := ⟨#[102]⟩
def al1 : DS := ((new 9).append fN [1, 2]).2
def al2 : DS := (al1.sync fN).2
def al3 : DS := (al2.append fN [3, 4]).2
def al4 : DS := (al3.off 1 true).on
theorem al_1 : (new 9).append fN [1, 2] = (0, al1) := by kernel_rfl
theorem al_2 : al1.sync fN = (0, al2) := by kernel_rfl
theorem al_3 : al2.append fN [3, 4] = (0, al3) := by kernel_rfl
theorem al_5 : al4.read fN = ([1, 2, 252], 0) := by kernel_rfl
theorem al_6 : strOfNums [1, 2, 252] = ⟨#[1, 2, 252]⟩ := by kernel_rfl
theorem ab_byt (l : List Int) (h : l.all (fun x => decide (0 ≤ x ∧ x ≤ 255)) = true) : ∀ x ∈ l, 0 ≤ x ∧ x ≤ 255 := fun x hx => of_decide_eq_true (List.all_eq_true.1 h x hx)
theorem alu1 : al1.Up 1 := (DS.Up.new 9).append fN (ab_byt [1, 2] (by decide))
theorem alu2 : al2.Up 2 := alu1.sync fN
theorem alu3 : al3.Up 3 := alu2.append fN (ab_byt [3, 4] (by decide))
theorem alu4 : al4.Up 3 := (alu3.off 1 true).on
section
variable {w W : World} {S : Nat → Prop} {g : Nat}
theorem al_c1 (h : St w S W g (new 9)) : Calls Try.prog 12 #[.pointer (some ⟨g, 0, none⟩), .string ⟨#[102]⟩, .slice (some ⟨W.heap.size, 0, none⟩) 2 2] (W.alloc (.cells #[.int .u8 1, .int .u8 2] 5)) fun e W' => ∃ S', e = .returned (.int .i64 0) ∧ St w S' W' g al1 := by
  have h1 := Append_S (s := fN) (n := 2) (c := 2) (h.alloc (.cells #[.int .u8 1, .int .u8 2] 5)) (DS.Up.new 9) (by decide) (lit_row h [1, 2] (by decide)) (by decide) (ab_byt [1, 2] (by decide)) al_1
  refine h1.mono ?_
  rintro e W' ⟨S', he, h2, _⟩
  exact ⟨S', he, h2⟩
theorem al_c2 (h : St w S W g al1) : Calls Try.prog 15 #[.pointer (some ⟨g, 0, none⟩), .string ⟨#[102]⟩] W fun e W' => ∃ S', e = .returned (.int .i64 0) ∧ St w S' W' g al2 := by
  refine (Sync_S (s := fN) h alu1 (by decide) al_2).mono ?_
  rintro e W' ⟨S', he, h2, _⟩
  exact ⟨S', he, h2⟩
theorem al_c3 (h : St w S W g al2) : Calls Try.prog 12 #[.pointer (some ⟨g, 0, none⟩), .string ⟨#[102]⟩, .slice (some ⟨W.heap.size, 0, none⟩) 2 2] (W.alloc (.cells #[.int .u8 3, .int .u8 4] 5)) fun e W' => ∃ S', e = .returned (.int .i64 0) ∧ St w S' W' g al3 := by
  have h1 := Append_S (s := fN) (n := 2) (c := 2) (h.alloc (.cells #[.int .u8 3, .int .u8 4] 5)) alu2 (by decide) (lit_row h [3, 4] (by decide)) (by decide) (ab_byt [3, 4] (by decide)) al_3
  refine h1.mono ?_
  rintro e W' ⟨S', he, h2, _⟩
  exact ⟨S', he, h2⟩
theorem al_c4 (h : St w S W g al3) : Calls Try.prog 16 #[.pointer (some ⟨g, 0, none⟩), .int .i64 1, .bool true] W fun e W' => ∃ S', e = .returned (.tuple #[]) ∧ St w S' W' g (al3.off 1 true) := by
  refine (Off_S h alu3 rfl).mono ?_
  rintro e W' ⟨S', he, h2, _⟩
  exact ⟨S', he, h2⟩
theorem al_c5 (h : St w S W g (al3.off 1 true)) : Calls Try.prog 17 #[.pointer (some ⟨g, 0, none⟩)] W fun e W' => ∃ S', e = .returned (.tuple #[]) ∧ St w S' W' g al4 := by
  refine (On_S h (d' := al4) rfl).mono ?_
  rintro e W' ⟨S', he, h2, _⟩
  exact ⟨S', he, h2⟩
theorem al_c6 (h : St w S W g al4) : Calls Try.prog 13 #[.pointer (some ⟨g, 0, none⟩), .string ⟨#[102]⟩] W fun e W' => ∃ A n c, e = .returned (.tuple #[.slice A n c, .int .i64 0]) ∧ (convert 22 9 (.slice A n c)).run Try.prog W' = .ok (.string ⟨#[1, 2, 252]⟩) W' ∧ Below w.heap.size w W' := by
  refine (Read_S (s := fN) h alu4 al_5).mono ?_
  rintro e W' ⟨A, n, c, he, hn, hr, hs, hb, hcv⟩
  rw [al_6] at hcv
  exact ⟨A, n, c, he, hcv, hs.bel⟩
end
set_option maxHeartbeats 4000000 in
set_option maxRecDepth 100000 in
theorem alive_Q (w : World) : Calls Try.prog 10 #[] w fun e w' => e = .returned (.bool true) ∧ Below w.heap.size w w' := by
  go_enter Try.func10, Try.ntmps10
  go_wp2_with (first
    | (go_at_call 11; refine (New_S w 9).mono ?_; rintro e w1 ⟨g, S0, rfl, hs⟩; have H0 := Aside0.mk hs; clear hs)
    | (go_at_call 12; refine (al_c1 H0.out).mono ?_; rintro e w2 ⟨S1, rfl, hs⟩; have H1 := Aside0.mk hs; clear hs H0)
    | (go_at_call 15; refine (al_c2 H1.out).mono ?_; rintro e w3 ⟨S2, rfl, hs⟩; have H2 := Aside0.mk hs; clear hs H1)
    | (go_at_call 12; refine (al_c3 H2.out).mono ?_; rintro e w4 ⟨S3, rfl, hs⟩; have H3 := Aside0.mk hs; clear hs H2)
    | (go_at_call 16; refine (al_c4 H3.out).mono ?_; rintro e w5 ⟨S4, rfl, hs⟩; have H4 := Aside0.mk hs; clear hs H3)
    | (go_at_call 17; refine (al_c5 H4.out).mono ?_; rintro e w6 ⟨S5, rfl, hs⟩; have H5 := Aside0.mk hs; clear hs H4)
    | (go_at_call 13; refine (al_c6 H5.out).mono ?_; rintro e w7 ⟨A, n, c, rfl, hcv, hb⟩; have H6 := Aside0.mk hb; clear hb H5))
  go_ret
  exact ⟨rfl, H6.out⟩
end Go.Proofs.Ytoedkemjidgbeaa.Dk
