/- Joined texts of this claim, in build order. -/
import Derived.Test.YtoedkemjidgbeaaMg0
import Derived.Test.YtoedkemjidgbeaaIt
import Derived.Sort.KeysCollected
/- A device among other things in memory: its blocks are told, and what a call does to them. -/
namespace Go.Proofs.Ytoedkemjidgbeaa.Dk
open Go Go.RowKit Go.Proofs.YtoedkemjidgbeaaW.PrintWords Go.Proofs.YtoedkemjidgbeaaW.PrintLast Go.Proofs.YtoedkemjidgbeaaW.PrintMore Go.Proofs.YtoedkemjidgbeaaMy Go.Proofs.Ytoedkemjidgbeaa Go.Proofs.YtoedkemjidgbeaaPw Go.Proofs.Ytoedkemjidgbeaa.PAll
set_option linter.unusedVariables false
set_option linter.unusedSimpArgs false
/-- What a device keeps to; at most k acts. -/
structure DS.Up (k : Int) (d : DS) : Prop extends DS.Fit d where
  once : Once d.files
  acts : 0 ≤ d.acts ∧ d.acts ≤ k
  fuse : 0 ≤ d.fuse ∧ d.fuse ≤ 9223372036854775807
namespace DS
variable {d : DS} {k : Int}
theorem Up.ok (h : d.Up k) (hk : k < 4611686018427387904) : d.Ok := ⟨h.toFit, ⟨h.acts.1, by have := h.acts.2; omega⟩, h.fuse⟩
theorem Up.mono (h : d.Up k) {j : Int} (hj : k ≤ j) : d.Up j := ⟨h.toFit, h.once, ⟨h.acts.1, Int.le_trans h.acts.2 hj⟩, h.fuse⟩
theorem Up.more (h : d.Up k) : d.Up (k + 1) := h.mono (by omega)
theorem Up.new (room : Int) : (Dk.new room).Up 0 := ⟨Fit.new room, List.nodup_nil, ⟨Int.le_refl _, Int.le_refl _⟩, ⟨Int.le_refl _, show (0 : Int) ≤ 9223372036854775807 by decide⟩⟩
theorem act_fuse (h : 0 ≤ d.fuse ∧ d.fuse ≤ 9223372036854775807) : 0 ≤ d.act.fuse ∧ d.act.fuse ≤ 9223372036854775807 := by
  unfold DS.act
  simp only
  split <;> omega
theorem Up.act (h : d.Up k) : d.act.Up (k + 1) := ⟨h.toFit.act, h.once, ⟨by have := h.acts.1; show 0 ≤ d.acts + 1; omega, by have := h.acts.2; show d.acts + 1 ≤ k + 1; omega⟩, act_fuse h.fuse⟩
theorem Up.off (h : d.Up k) (keep : Int) (torn : Bool) : (d.off keep torn).Up k := by
  refine ⟨h.toFit.off keep torn, ?_, ?_, ?_⟩
  · unfold DS.off
    split
    · exact h.once
    · exact lose_once h.once keep torn
  · unfold DS.off
    split <;> exact h.acts
  · unfold DS.off
    split
    · exact h.fuse
    · exact ⟨Int.le_refl _, by simp⟩
theorem Up.on (h : d.Up k) : d.on.Up k := ⟨h.toFit.on, h.once, h.acts, h.fuse⟩
theorem Up.arm (h : d.Up k) (n keep : Int) (torn : Bool) (hn : n ≤ 9223372036854775807) : (d.arm n keep torn).Up k := ⟨h.toFit.arm n keep torn, h.once, h.acts, by show 0 ≤ max n 0 ∧ max n 0 ≤ 9223372036854775807; omega⟩
theorem Up.putF (h : d.Up k) {f : Fl} (hf : (d.put f).Fit) : (d.put f).Up k := ⟨hf, putF_once h.once f, h.acts, h.fuse⟩
theorem Up.dropF (h : d.Up k) (s : ByteArray) : (d.drop s).Up k := ⟨h.toFit.drop s, delF_once h.once s, h.acts, h.fuse⟩
theorem Up.append (h : d.Up k) (s : ByteArray) {xs : List Int} (hx : ∀ x ∈ xs, 0 ≤ x ∧ x ≤ 255) : (d.append s xs).2.Up (k + 1) := by
  unfold DS.append
  split
  · exact h.more
  · split
    · exact h.more
    · next hl =>
      have h1 := h.act.putF (h.toFit.act.append h.once s hx (Int.not_lt.1 hl))
      simp only
      split
      · exact h1.off _ _
      · exact h1
theorem Up.sync (h : d.Up k) (s : ByteArray) : (d.sync s).2.Up (k + 1) := by
  unfold DS.sync
  split
  · exact h.more
  · next ht =>
    obtain ⟨f, hf⟩ := (there_ready (Decidable.of_not_not ht)).2
    split
    · exact h.act.off _ _
    · rw [fileOr_some hf]
      exact h.act.putF (h.toFit.act.less h.once (f := f) (findF_some hf).1 rfl (fun _ h => h) (Nat.le_refl _))
theorem Up.fall (h : d.Up k) {done : DS → DS} (hd : (done d.act).Up (k + 1)) : (d.fall done).2.Up (k + 1) := by
  unfold DS.fall
  split
  · simp only
    split
    · exact hd.off _ _
    · exact h.act.off _ _
  · exact hd
theorem Up.cut (h : d.Up k) (s : ByteArray) (n : Int) : (d.cut s n).2.Up (k + 1) := by
  unfold DS.cut
  split
  · exact h.more
  · next ht =>
    obtain ⟨f, hf⟩ := (there_ready (Decidable.of_not_not ht)).2
    split
    · exact h.more
    · refine h.fall ?_
      rw [file_fileOr hf]
      exact h.act.putF (h.toFit.act.less h.once (f := f) (findF_some hf).1 rfl (fun x hx => List.mem_of_mem_take hx) (by unfold cutTo; rw [List.length_take]; omega))
theorem Up.rename (h : d.Up k) (a b : ByteArray) : (d.rename a b).2.Up (k + 1) := by
  unfold DS.rename
  split
  · exact h.more
  · next ht =>
    obtain ⟨f, hf⟩ := (there_ready (Decidable.of_not_not ht)).2
    split
    · exact h.more
    · refine h.fall ?_
      rw [file_fileOr hf]
      obtain ⟨hm, rfl⟩ := findF_some hf
      exact (h.act.dropF f.name).putF (h.toFit.act.move h.once hm b)
theorem Up.remove (h : d.Up k) (s : ByteArray) : (d.remove s).2.Up (k + 1) := by
  unfold DS.remove
  split
  · exact h.more
  · exact h.fall (h.act.dropF s)
end DS
/-- The device at block g; its blocks are S's, from B on. -/
structure Dev (S : Nat → Prop) (B : Nat) (W : World) (g : Nat) (d : DS) : Prop where
  at_ : DevAt S W g d
  lo : ∀ k, S k → B ≤ k
  hi : ∀ k, S k → k < W.heap.size
/-- What a call has turned: blocks of S alone; S' is S and what is new. -/
structure Step (S : Nat → Prop) (W : World) (S' : Nat → Prop) (W' : World) : Prop where
  only : Only S W W'
  sub : ∀ k, S' k → S k ∨ W.heap.size ≤ k
theorem DevAt.shrink {S : Nat → Prop} {W : World} {g : Nat} {d : DS} (h : DevAt S W g d) : DevAt (fun k => S k ∧ k < W.heap.size) W g d := by
  obtain ⟨mb, n, D, bl, vl, h⟩ := h
  exact h.shrink.at
section
variable {S S' S2 : Nat → Prop} {B : Nat} {W W' W2 : World} {g : Nat} {d d' : DS}
theorem Dev.next (h : Dev S B W g d) (hB : B ≤ W.heap.size) (hD : DevAt (Grow S W) W' g d') (hO : Only S W W') : ∃ S', Dev S' B W' g d' ∧ Step S W S' W' :=
  ⟨fun k => Grow S W k ∧ k < W'.heap.size, ⟨hD.shrink, fun k hk => hk.1.elim (h.lo k) (fun h => Nat.le_trans hB h), fun k hk => hk.2⟩, hO, fun k hk => hk.1⟩
/-- What isn't the device's may turn. -/
theorem Dev.move (h : Dev S B W g d) (hs : W.heap.size ≤ W'.heap.size) (hm : ∀ k, S k → W'.heap[k]? = W.heap[k]?) : Dev S B W' g d := by
  obtain ⟨mb, n, D, bl, vl, hd⟩ := h.at_
  exact ⟨(hd.move (fun k hk _ => hm k hk)).at, h.lo, fun k hk => Nat.lt_of_lt_of_le (h.hi k hk) hs⟩
theorem Dev.below (h : Dev S B W g d) (hb : Below W.heap.size W W') : Dev S B W' g d := h.move hb.size (fun k hk => hb.block k (h.hi k hk))
theorem Dev.other (h : Dev S B W g d) (ho : Only S2 W W') (hd : ∀ k, S k → ¬ S2 k) : Dev S B W' g d := h.move ho.size (fun k hk => ho.block k (h.hi k hk) (hd k hk))
theorem Step.below (h : Step S W S' W') (hl : ∀ k, S k → B ≤ k) (hB : B ≤ W.heap.size) : Below B W W' := h.only.toBelow hl hB
/-- A row that isn't the device's. -/
abbrev Row (S : Nat → Prop) (W : World) (A : Option Addr) (n : Nat) (xs : List Int) : Prop := Kd.F bK W (fun k => ¬ S k) A n xs
theorem Row.step {A : Option Addr} {n : Nat} {xs : List Int} (h : Row S W A n xs) (hs : Step S W S' W') : Row S' W' A n xs := by
  have h1 := F_only (Kd.F_bound h) hs.only (fun k hk => hk.1)
  exact Kd.F_mono h1 (fun k hk hS => (hs.sub k hS).elim hk.1 (fun h => by have := hk.2; omega))
theorem Row.below {A : Option Addr} {n : Nat} {xs : List Int} (h : Row S W A n xs) (hb : Below W.heap.size W W') : Row S W' A n xs := Kd.F_below h hb
theorem Row.none_ : Row S W none 0 [] := Kd.F_nil bK W _
theorem Row.of {A : Option Addr} {n cc : Nat} {xs : List Int} {e base : Nat} {ok : Nat → Prop} (h : bK.R e W base ok (.slice A n cc) xs) (hb : ∀ k, S k → k < base) : Row S W A n xs := by
  have hb2 := Kd.R_base2 h
  have h2 : bK.R e W base (fun k => ¬ S k) (.slice A n cc) xs := Kd.R_of_own (Kd.own_of_R h) (fun k hk hS => by
    rcases hb2 with h0 | ⟨k2, h3, h4⟩
    · rw [hk] at h0; cases h0
    · rw [hk] at h3
      cases h3
      have := hb k hS
      omega)
  exact Kd.R_F h2
/-- A row that came in. -/
theorem Row.came {A : Option Addr} {n : Nat} {xs : List Int} (h : bK.C W A n xs) (hl : ∀ k, S k → W.heap.size ≤ k) : Row S W A n xs := Kd.F_mono (Kd.C_F (Kd.heap_int .u8) h) (fun k hk hS => by have := hl k hS; omega)
/-! Each call, told by what the plain device does. -/
variable {k r : Int} {A : Option Addr} {n c : Nat} {xs : List Int} {s : ByteArray}
theorem New_D (w : World) (room : Int) : Calls Try.prog 11 #[.int .i64 room] w fun e w' => ∃ g S, e = .returned (.pointer (some ⟨g, 0, none⟩)) ∧ Dev S w.heap.size w' g (new room) ∧ Below w.heap.size w w' := by
  refine (New_Q w room).mono ?_
  rintro e w' ⟨g, rfl, hd, hb⟩
  exact ⟨g, _, rfl, ⟨hd.shrink, fun k hk => hk.1, fun k hk => hk.2⟩, hb⟩
theorem Append_D (h : Dev S B W g d) (hB : B ≤ W.heap.size) (hu : d.Up k) (hk : k < 4611686018427387904) (hx : Row S W A n xs) (hn : n ≤ 4294967296) (hxb : ∀ x ∈ xs, 0 ≤ x ∧ x ≤ 255) (he : d.append s xs = (r, d')) :
    Calls Try.prog 12 #[.pointer (some ⟨g, 0, none⟩), .string s, .slice A n c] W fun e W' => ∃ S', e = .returned (.int .i64 r) ∧ Dev S' B W' g d' ∧ Step S W S' W' := by
  refine (Append_Q h.at_ (hu.ok hk) s hx hn hxb).mono ?_
  rw [he]
  rintro e W' ⟨rfl, hD, hO⟩
  obtain ⟨S', h1, h2⟩ := h.next hB hD hO
  exact ⟨S', rfl, h1, h2⟩
theorem Sync_D (h : Dev S B W g d) (hB : B ≤ W.heap.size) (hu : d.Up k) (hk : k < 4611686018427387904) (he : d.sync s = (r, d')) :
    Calls Try.prog 15 #[.pointer (some ⟨g, 0, none⟩), .string s] W fun e W' => ∃ S', e = .returned (.int .i64 r) ∧ Dev S' B W' g d' ∧ Step S W S' W' := by
  refine (Sync_Q h.at_ (hu.ok hk) s).mono ?_
  rw [he]
  rintro e W' ⟨rfl, hD, hO⟩
  obtain ⟨S', h1, h2⟩ := h.next hB hD hO
  exact ⟨S', rfl, h1, h2⟩
theorem Cut_D (h : Dev S B W g d) (hB : B ≤ W.heap.size) (hu : d.Up k) (hk : k < 4611686018427387904) {j : Int} (he : d.cut s j = (r, d')) :
    Calls Try.prog 19 #[.pointer (some ⟨g, 0, none⟩), .string s, .int .i64 j] W fun e W' => ∃ S', e = .returned (.int .i64 r) ∧ Dev S' B W' g d' ∧ Step S W S' W' := by
  refine (Cut_Q h.at_ (hu.ok hk) s j).mono ?_
  rw [he]
  rintro e W' ⟨rfl, hD, hO⟩
  obtain ⟨S', h1, h2⟩ := h.next hB hD hO
  exact ⟨S', rfl, h1, h2⟩
theorem Rename_D (h : Dev S B W g d) (hB : B ≤ W.heap.size) (hu : d.Up k) (hk : k < 4611686018427387904) {b : ByteArray} (he : d.rename s b = (r, d')) :
    Calls Try.prog 18 #[.pointer (some ⟨g, 0, none⟩), .string s, .string b] W fun e W' => ∃ S', e = .returned (.int .i64 r) ∧ Dev S' B W' g d' ∧ Step S W S' W' := by
  refine (Rename_Q h.at_ (hu.ok hk) s b).mono ?_
  rw [he]
  rintro e W' ⟨rfl, hD, hO⟩
  obtain ⟨S', h1, h2⟩ := h.next hB hD hO
  exact ⟨S', rfl, h1, h2⟩
theorem Remove_D (h : Dev S B W g d) (hB : B ≤ W.heap.size) (hu : d.Up k) (hk : k < 4611686018427387904) (he : d.remove s = (r, d')) :
    Calls Try.prog 20 #[.pointer (some ⟨g, 0, none⟩), .string s] W fun e W' => ∃ S', e = .returned (.int .i64 r) ∧ Dev S' B W' g d' ∧ Step S W S' W' := by
  refine (Remove_Q h.at_ (hu.ok hk) s).mono ?_
  rw [he]
  rintro e W' ⟨rfl, hD, hO⟩
  obtain ⟨S', h1, h2⟩ := h.next hB hD hO
  exact ⟨S', rfl, h1, h2⟩
theorem Off_D (h : Dev S B W g d) (hB : B ≤ W.heap.size) (hu : d.Up k) {keep : Int} {torn : Bool} (he : d.off keep torn = d') :
    Calls Try.prog 16 #[.pointer (some ⟨g, 0, none⟩), .int .i64 keep, .bool torn] W fun e W' => ∃ S', e = .returned (.tuple #[]) ∧ Dev S' B W' g d' ∧ Step S W S' W' := by
  obtain ⟨mb, n, D, bl, vl, hd⟩ := h.at_
  refine (Off_Q hd hu.toFit keep torn).mono ?_
  rw [he]
  rintro e W' ⟨rfl, hD, hO⟩
  obtain ⟨S', h1, h2⟩ := h.next hB hD hO
  exact ⟨S', rfl, h1, h2⟩
theorem On_D (h : Dev S B W g d) (hB : B ≤ W.heap.size) :
    Calls Try.prog 17 #[.pointer (some ⟨g, 0, none⟩)] W fun e W' => ∃ S', e = .returned (.tuple #[]) ∧ Dev S' B W' g d.on ∧ Step S W S' W' := by
  refine (On_Q h.at_).mono ?_
  rintro e W' ⟨rfl, hD, hO⟩
  obtain ⟨S', h1, h2⟩ := h.next hB hD hO
  exact ⟨S', rfl, h1, h2⟩
theorem Arm_D (h : Dev S B W g d) (hB : B ≤ W.heap.size) {j keep : Int} {torn : Bool} :
    Calls Try.prog 14 #[.pointer (some ⟨g, 0, none⟩), .int .i64 j, .int .i64 keep, .bool torn] W fun e W' => ∃ S', e = .returned (.tuple #[]) ∧ Dev S' B W' g (d.arm j keep torn) ∧ Step S W S' W' := by
  refine (Arm_Q h.at_ j keep torn).mono ?_
  rintro e W' ⟨rfl, hD, hO⟩
  obtain ⟨S', h1, h2⟩ := h.next hB hD hO
  exact ⟨S', rfl, h1, h2⟩
theorem Read_D (h : Dev S B W g d) (hu : d.Up k) (he : d.read s = (xs, r)) :
    Calls Try.prog 13 #[.pointer (some ⟨g, 0, none⟩), .string s] W fun e W' => ∃ A c, e = .returned (.tuple #[.slice A xs.length c, .int .i64 r]) ∧ bK.R 5 W' W.heap.size (fun _ => True) (.slice A xs.length c) xs ∧ Dev S B W' g d ∧ Below W.heap.size W W' := by
  obtain ⟨mb, n, D, bl, vl, hd⟩ := h.at_
  unfold DS.read at he
  by_cases ht : d.there s = 0
  · rw [if_neg (fun h => h ht)] at he
    injection he with e1 e2
    subst e1
    subst e2
    refine (Read_2 hd hu.toFit s ht).mono ?_
    rintro e W' ⟨⟨v, rfl, hr⟩, hb⟩
    obtain ⟨A, cc, ev⟩ := Kd.R_slice hr
    subst ev
    exact ⟨A, cc, rfl, hr, h.below hb, hb⟩
  · rw [if_pos ht] at he
    injection he with e1 e2
    subst e1
    subst e2
    refine (Read_1 hd s ht).mono ?_
    rintro e W' ⟨rfl, hb⟩
    exact ⟨none, 0, rfl, Kd.R_nil _ _ _ _ _, h.below hb, hb⟩
theorem Free_D (h : Dev S B W g d) (hu : d.Up k) :
    Calls Try.prog 22 #[.pointer (some ⟨g, 0, none⟩)] W fun e W' => e = .returned (.int .i64 d.free) ∧ Dev S B W' g d ∧ Below W.heap.size W W' := by
  obtain ⟨mb, n, D, bl, vl, hd⟩ := h.at_
  refine (Free_Q hd hu.toFit).mono ?_
  rintro e W' ⟨rfl, hb⟩
  exact ⟨rfl, h.below hb, hb⟩
end
end Go.Proofs.Ytoedkemjidgbeaa.Dk
/- A walk with one device; alive. -/
namespace Go.Proofs.Ytoedkemjidgbeaa.Dk
open Go Go.RowKit Go.Proofs.YtoedkemjidgbeaaW.PrintWords Go.Proofs.YtoedkemjidgbeaaW.PrintLast Go.Proofs.YtoedkemjidgbeaaW.PrintMore Go.Proofs.YtoedkemjidgbeaaMy Go.Proofs.Ytoedkemjidgbeaa Go.Proofs.YtoedkemjidgbeaaPw Go.Proofs.Ytoedkemjidgbeaa.PAll
attribute [local go_sem] max2_m min2_m max_two min_two
set_option linter.unusedVariables false
set_option linter.unusedSimpArgs false
/-- A device, of blocks that are newer than w0; nothing elder has turned. -/
structure St (w0 : World) (S : Nat → Prop) (W : World) (g : Nat) (d : DS) : Prop where
  dev : Dev S w0.heap.size W g d
  bel : Below w0.heap.size w0 W
section
variable {w0 W W' : World} {S S' : Nat → Prop} {g : Nat} {d d' : DS} {k r : Int} {A : Option Addr} {n c : Nat} {xs : List Int} {s : ByteArray}
theorem St.below (h : St w0 S W g d) (hb : Below W.heap.size W W') : St w0 S W' g d := ⟨h.dev.below hb, h.bel.trans (hb.mono h.bel.size)⟩
theorem St.next (h : St w0 S W g d) (hd : Dev S' w0.heap.size W' g d') (hs : Step S W S' W') : St w0 S' W' g d' := ⟨hd, h.bel.trans (hs.below h.dev.lo h.bel.size)⟩
theorem St.alloc (h : St w0 S W g d) (o : Obj) : St w0 S (W.alloc o) g d := h.below (below_alloc (Below.refl _ _) _)
theorem St.drew (h : St w0 S W g d) : St w0 S W.drew g d := h.below (below_drew1 (Below.refl _ _))
/-- A row that is written out. -/
theorem lit_row (h : St w0 S W g d) (xs : List Int) (hm : xs.length ≤ 9223372036854775807) : Row S (W.alloc (.cells (nums .u8 xs).toArray 5)) (some ⟨W.heap.size, 0, none⟩) xs.length xs :=
  Row.of (Kd.R_of_own (own_lit W W.heap.size 5 .u8 xs (Nat.le_refl _) hm) (ok := fun _ => True) (fun _ _ => trivial)) h.dev.hi
theorem New_S (w room) : Calls Try.prog 11 #[.int .i64 room] w fun e w' => ∃ g S, e = .returned (.pointer (some ⟨g, 0, none⟩)) ∧ St w S w' g (new room) := by
  refine (New_D w room).mono ?_
  rintro e w' ⟨g, S, rfl, h1, h2⟩
  exact ⟨g, S, rfl, h1, h2⟩
/-- .. with something made ahead. -/
theorem New_S' (w0 w : World) (hb : Below w0.heap.size w0 w) (room : Int) : Calls Try.prog 11 #[.int .i64 room] w fun e w' => ∃ g S, e = .returned (.pointer (some ⟨g, 0, none⟩)) ∧ St w0 S w' g (new room) ∧ (∀ k, S k → w.heap.size ≤ k) ∧ Below w.heap.size w w' := by
  refine (New_D w room).mono ?_
  rintro e w' ⟨g, S, rfl, h1, h2⟩
  exact ⟨g, S, rfl, ⟨⟨h1.at_, fun k hk => Nat.le_trans hb.size (h1.lo k hk), h1.hi⟩, hb.trans (h2.mono hb.size)⟩, h1.lo, h2⟩
theorem Append_S (h : St w0 S W g d) (hu : d.Up k) (hk : k < 4611686018427387904) (hx : Row S W A n xs) (hn : n ≤ 4294967296) (hxb : ∀ x ∈ xs, 0 ≤ x ∧ x ≤ 255) (he : d.append s xs = (r, d')) :
    Calls Try.prog 12 #[.pointer (some ⟨g, 0, none⟩), .string s, .slice A n c] W fun e W' => ∃ S', e = .returned (.int .i64 r) ∧ St w0 S' W' g d' ∧ Step S W S' W' := by
  refine (Append_D h.dev h.bel.size hu hk hx hn hxb he).mono ?_
  rintro e W' ⟨S', rfl, h1, h2⟩
  exact ⟨S', rfl, h.next h1 h2, h2⟩
theorem Sync_S (h : St w0 S W g d) (hu : d.Up k) (hk : k < 4611686018427387904) (he : d.sync s = (r, d')) :
    Calls Try.prog 15 #[.pointer (some ⟨g, 0, none⟩), .string s] W fun e W' => ∃ S', e = .returned (.int .i64 r) ∧ St w0 S' W' g d' ∧ Step S W S' W' := by
  refine (Sync_D h.dev h.bel.size hu hk he).mono ?_
  rintro e W' ⟨S', rfl, h1, h2⟩
  exact ⟨S', rfl, h.next h1 h2, h2⟩
theorem Cut_S (h : St w0 S W g d) (hu : d.Up k) (hk : k < 4611686018427387904) {j : Int} (he : d.cut s j = (r, d')) :
    Calls Try.prog 19 #[.pointer (some ⟨g, 0, none⟩), .string s, .int .i64 j] W fun e W' => ∃ S', e = .returned (.int .i64 r) ∧ St w0 S' W' g d' ∧ Step S W S' W' := by
  refine (Cut_D h.dev h.bel.size hu hk he).mono ?_
  rintro e W' ⟨S', rfl, h1, h2⟩
  exact ⟨S', rfl, h.next h1 h2, h2⟩
theorem Rename_S (h : St w0 S W g d) (hu : d.Up k) (hk : k < 4611686018427387904) {b : ByteArray} (he : d.rename s b = (r, d')) :
    Calls Try.prog 18 #[.pointer (some ⟨g, 0, none⟩), .string s, .string b] W fun e W' => ∃ S', e = .returned (.int .i64 r) ∧ St w0 S' W' g d' ∧ Step S W S' W' := by
  refine (Rename_D h.dev h.bel.size hu hk he).mono ?_
  rintro e W' ⟨S', rfl, h1, h2⟩
  exact ⟨S', rfl, h.next h1 h2, h2⟩
theorem Remove_S (h : St w0 S W g d) (hu : d.Up k) (hk : k < 4611686018427387904) (he : d.remove s = (r, d')) :
    Calls Try.prog 20 #[.pointer (some ⟨g, 0, none⟩), .string s] W fun e W' => ∃ S', e = .returned (.int .i64 r) ∧ St w0 S' W' g d' ∧ Step S W S' W' := by
  refine (Remove_D h.dev h.bel.size hu hk he).mono ?_
  rintro e W' ⟨S', rfl, h1, h2⟩
  exact ⟨S', rfl, h.next h1 h2, h2⟩
theorem Off_S (h : St w0 S W g d) (hu : d.Up k) {keep : Int} {torn : Bool} (he : d.off keep torn = d') :
    Calls Try.prog 16 #[.pointer (some ⟨g, 0, none⟩), .int .i64 keep, .bool torn] W fun e W' => ∃ S', e = .returned (.tuple #[]) ∧ St w0 S' W' g d' ∧ Step S W S' W' := by
  refine (Off_D h.dev h.bel.size hu he).mono ?_
  rintro e W' ⟨S', rfl, h1, h2⟩
  exact ⟨S', rfl, h.next h1 h2, h2⟩
theorem On_S (h : St w0 S W g d) (he : d.on = d') : Calls Try.prog 17 #[.pointer (some ⟨g, 0, none⟩)] W fun e W' => ∃ S', e = .returned (.tuple #[]) ∧ St w0 S' W' g d' ∧ Step S W S' W' := by
  refine (On_D h.dev h.bel.size).mono ?_
  rintro e W' ⟨S', rfl, h1, h2⟩
  exact ⟨S', rfl, he ▸ h.next h1 h2, h2⟩
theorem Arm_S (h : St w0 S W g d) {j keep : Int} {torn : Bool} (he : d.arm j keep torn = d') : Calls Try.prog 14 #[.pointer (some ⟨g, 0, none⟩), .int .i64 j, .int .i64 keep, .bool torn] W fun e W' => ∃ S', e = .returned (.tuple #[]) ∧ St w0 S' W' g d' ∧ Step S W S' W' := by
  refine (Arm_D h.dev h.bel.size).mono ?_
  rintro e W' ⟨S', rfl, h1, h2⟩
  exact ⟨S', rfl, he ▸ h.next h1 h2, h2⟩
/-- Read: the row is new memory, none of the device's. -/
theorem Read_S (h : St w0 S W g d) (hu : d.Up k) (he : d.read s = (xs, r)) :
    Calls Try.prog 13 #[.pointer (some ⟨g, 0, none⟩), .string s] W fun e W' => ∃ A n c, e = .returned (.tuple #[.slice A n c, .int .i64 r]) ∧ n = xs.length ∧ bK.R 5 W' W.heap.size (fun _ => True) (.slice A n c) xs ∧ St w0 S W' g d ∧ Below W.heap.size W W' ∧ (convert 22 9 (.slice A n c)).run Try.prog W' = .ok (.string (strOfNums xs)) W' := by
  refine (Read_D h.dev hu he).mono ?_
  rintro e W' ⟨A, c, rfl, h1, h2, h3⟩
  exact ⟨A, _, c, rfl, rfl, h1, h.below h3, h3, (Kd.C_string Try.underlying22 Try.underlying5 Try.underlying9 (Kd.R_reads' h1).2.2)⟩
end
/-! alive. -/
def fN : ByteArray := ⟨#[102]⟩
def al1 : DS := ((new 9).append fN [1, 2]).2
def al2 : DS := (al1.sync fN).2
def al3 : DS := (al2.append fN [3, 4]).2
def al4 : DS := (al3.off 1 true).on
theorem al_1 : (new 9).append fN [1, 2] = (0, al1) := by kernel_rfl
theorem al_2 : al1.sync fN = (0, al2) := by kernel_rfl
theorem al_3 : al2.append fN [3, 4] = (0, al3) := by kernel_rfl
theorem al_5 : al4.read fN = ([1, 2, 252], 0) := by kernel_rfl
theorem al_6 : strOfNums [1, 2, 252] = ⟨#[1, 2, 252]⟩ := by kernel_rfl
theorem ab_byt (l : List Int) (h : l.all (fun x => decide (0 ≤ x ∧ x ≤ 255)) = true) : ∀ x ∈ l, 0 ≤ x ∧ x ≤ 255 := fun x hx => of_decide_eq_true (List.all_eq_true.1 h x hx)
theorem alu1 : al1.Up 1 := (DS.Up.new 9).append fN (ab_byt [1, 2] (by decide))
theorem alu2 : al2.Up 2 := alu1.sync fN
theorem alu3 : al3.Up 3 := alu2.append fN (ab_byt [3, 4] (by decide))
theorem alu4 : al4.Up 3 := (alu3.off 1 true).on
section
variable {w W : World} {S : Nat → Prop} {g : Nat}
theorem al_c1 (h : St w S W g (new 9)) : Calls Try.prog 12 #[.pointer (some ⟨g, 0, none⟩), .string ⟨#[102]⟩, .slice (some ⟨W.heap.size, 0, none⟩) 2 2] (W.alloc (.cells #[.int .u8 1, .int .u8 2] 5)) fun e W' => ∃ S', e = .returned (.int .i64 0) ∧ St w S' W' g al1 := by
  have h1 := Append_S (s := fN) (n := 2) (c := 2) (h.alloc (.cells #[.int .u8 1, .int .u8 2] 5)) (DS.Up.new 9) (by decide) (lit_row h [1, 2] (by decide)) (by decide) (ab_byt [1, 2] (by decide)) al_1
  refine h1.mono ?_
  rintro e W' ⟨S', he, h2, _⟩
  exact ⟨S', he, h2⟩
theorem al_c2 (h : St w S W g al1) : Calls Try.prog 15 #[.pointer (some ⟨g, 0, none⟩), .string ⟨#[102]⟩] W fun e W' => ∃ S', e = .returned (.int .i64 0) ∧ St w S' W' g al2 := by
  refine (Sync_S (s := fN) h alu1 (by decide) al_2).mono ?_
  rintro e W' ⟨S', he, h2, _⟩
  exact ⟨S', he, h2⟩
theorem al_c3 (h : St w S W g al2) : Calls Try.prog 12 #[.pointer (some ⟨g, 0, none⟩), .string ⟨#[102]⟩, .slice (some ⟨W.heap.size, 0, none⟩) 2 2] (W.alloc (.cells #[.int .u8 3, .int .u8 4] 5)) fun e W' => ∃ S', e = .returned (.int .i64 0) ∧ St w S' W' g al3 := by
  have h1 := Append_S (s := fN) (n := 2) (c := 2) (h.alloc (.cells #[.int .u8 3, .int .u8 4] 5)) alu2 (by decide) (lit_row h [3, 4] (by decide)) (by decide) (ab_byt [3, 4] (by decide)) al_3
  refine h1.mono ?_
  rintro e W' ⟨S', he, h2, _⟩
  exact ⟨S', he, h2⟩
theorem al_c4 (h : St w S W g al3) : Calls Try.prog 16 #[.pointer (some ⟨g, 0, none⟩), .int .i64 1, .bool true] W fun e W' => ∃ S', e = .returned (.tuple #[]) ∧ St w S' W' g (al3.off 1 true) := by
  refine (Off_S h alu3 rfl).mono ?_
  rintro e W' ⟨S', he, h2, _⟩
  exact ⟨S', he, h2⟩
theorem al_c5 (h : St w S W g (al3.off 1 true)) : Calls Try.prog 17 #[.pointer (some ⟨g, 0, none⟩)] W fun e W' => ∃ S', e = .returned (.tuple #[]) ∧ St w S' W' g al4 := by
  refine (On_S h (d' := al4) rfl).mono ?_
  rintro e W' ⟨S', he, h2, _⟩
  exact ⟨S', he, h2⟩
theorem al_c6 (h : St w S W g al4) : Calls Try.prog 13 #[.pointer (some ⟨g, 0, none⟩), .string ⟨#[102]⟩] W fun e W' => ∃ A n c, e = .returned (.tuple #[.slice A n c, .int .i64 0]) ∧ (convert 22 9 (.slice A n c)).run Try.prog W' = .ok (.string ⟨#[1, 2, 252]⟩) W' ∧ Below w.heap.size w W' := by
  refine (Read_S (s := fN) h alu4 al_5).mono ?_
  rintro e W' ⟨A, n, c, he, hn, hr, hs, hb, hcv⟩
  rw [al_6] at hcv
  exact ⟨A, n, c, he, hcv, hs.bel⟩
end
set_option maxHeartbeats 4000000 in
set_option maxRecDepth 100000 in
theorem alive_Q (w : World) : Calls Try.prog 10 #[] w fun e w' => e = .returned (.bool true) ∧ Below w.heap.size w w' := by
  go_enter Try.func10, Try.ntmps10
  go_wp2_with (first
    | (go_at_call 11; refine (New_S w 9).mono ?_; rintro e w1 ⟨g, S0, rfl, hs⟩; have H0 := Aside0.mk hs; clear hs)
    | (go_at_call 12; refine (al_c1 H0.out).mono ?_; rintro e w2 ⟨S1, rfl, hs⟩; have H1 := Aside0.mk hs; clear hs H0)
    | (go_at_call 15; refine (al_c2 H1.out).mono ?_; rintro e w3 ⟨S2, rfl, hs⟩; have H2 := Aside0.mk hs; clear hs H1)
    | (go_at_call 12; refine (al_c3 H2.out).mono ?_; rintro e w4 ⟨S3, rfl, hs⟩; have H3 := Aside0.mk hs; clear hs H2)
    | (go_at_call 16; refine (al_c4 H3.out).mono ?_; rintro e w5 ⟨S4, rfl, hs⟩; have H4 := Aside0.mk hs; clear hs H3)
    | (go_at_call 17; refine (al_c5 H4.out).mono ?_; rintro e w6 ⟨S5, rfl, hs⟩; have H5 := Aside0.mk hs; clear hs H4)
    | (go_at_call 13; refine (al_c6 H5.out).mono ?_; rintro e w7 ⟨A, n, c, rfl, hcv, hb⟩; have H6 := Aside0.mk hb; clear hb H5))
  go_ret
  exact ⟨rfl, H6.out⟩
end Go.Proofs.Ytoedkemjidgbeaa.Dk
/- Names: all files' names, in order. -/
namespace Go.Proofs.Ytoedkemjidgbeaa.Dk
open Go Go.RowKit Go.Proofs.YtoedkemjidgbeaaW.PrintWords Go.Proofs.YtoedkemjidgbeaaW.PrintLast Go.Proofs.YtoedkemjidgbeaaW.PrintMore Go.Proofs.YtoedkemjidgbeaaMy Go.Proofs.Ytoedkemjidgbeaa Go.Proofs.YtoedkemjidgbeaaPw Go.Proofs.Ytoedkemjidgbeaa.PAll
set_option linter.unusedVariables false
set_option linter.unusedSimpArgs false
/-- The names, as lists of bytes. -/
def nmL (l : List Fl) : List (List UInt8) := l.map fun f => f.name.data.toList
/-- The names in order. -/
def DS.names (d : DS) : List ByteArray := ((nmL d.files).mergeSort leB).map fun b => ⟨b.toArray⟩
theorem nmL_nodup {l : List Fl} (h : Once l) : (nmL l).Nodup := by
  unfold nmL
  unfold Once at h
  rw [show (fun f : Fl => f.name.data.toList) = (fun s : ByteArray => s.data.toList) ∘ Fl.name from rfl, ← List.map_map]
  exact List.Pairwise.map _ (fun a b hne e => hne (ba_inj (by rw [ba_toList, ba_toList]; exact e))) h
theorem mem_nmL {l : List Fl} {x : List UInt8} : x ∈ nmL l ↔ ∃ f ∈ l, f.name.data.toList = x := by unfold nmL; rw [List.mem_map]
section
variable {S : Nat → Prop} {w : World} {g : Nat} {d : DS} {mb n : Nat} {D : DataW Unit} {bl : ByteArray → Nat} {vl : ByteArray → Value}
theorem names_perm (h : DevW S w g d mb n D bl vl) : (nmL d.files).Perm (strKeys D) := by
  obtain ⟨es, hes, hp, _⟩ := h.own.entries keyed
  obtain ⟨es2, e2, hk2⟩ := h.own.keysOf
  have hee : es2 = es := by rw [hes] at e2; cases e2; rfl
  subst hee
  subst hes
  refine perm_strKeys hp (fun p hpm => ?_) (nmL_nodup h.cells.1) (fun x => ?_)
  · obtain ⟨key, hkey⟩ := hk2 p hpm
    obtain ⟨x, _, e, _⟩ := Maps.keyOf_str Try.underlying9 hkey
    exact ⟨x, e⟩
  · rw [mem_nmL]
    constructor
    · rintro ⟨f, hf, rfl⟩
      exact h.rep.2.2.1 f hf
    · intro hx
      obtain ⟨f, hf, e⟩ := h.rep.2.1 (.string x) hx
      refine ⟨f, hf, ?_⟩
      unfold ky at e
      injection e with e
      exact e.symm
theorem mem_has (h : DevW S w g d mb n D bl vl) : (n : Int) ≤ d.acts := h.cnt
theorem str_row {W : World} {base n : Nat} {v : Value} {l : List (List UInt8)} (h : W.ownsRow base 9 1 v n (l.map encStr)) : Kd.R Kd.string 9 W base (fun _ => True) v (l.map fun b => ⟨b.toArray⟩) := by
  have e : l.map encStr = (l.map fun b => (⟨b.toArray⟩ : ByteArray)).map Value.string := by rw [List.map_map]; rfl
  rw [e] at h
  refine Kd.R_of_own (enc := Value.string) (h1 := fun _ => rfl) ?_ (fun _ _ => trivial)
  have hn : n = (l.map fun b => (⟨b.toArray⟩ : ByteArray)).length := by have := h.1; simp at this; simp; omega
  rw [← hn]
  exact h
set_option maxHeartbeats 4000000 in
set_option maxRecDepth 100000 in
theorem Names_Q (h : DevW S w g d mb n D bl vl) (hb : d.acts ≤ 1000000000000) : Calls Try.prog 21 #[.pointer (some ⟨g, 0, none⟩)] w fun e w' => ∃ v, e = .returned v ∧ Kd.R Kd.string 9 w' w.heap.size (fun _ => True) v d.names ∧ Below w.heap.size w w' := by
  have z0 : w.cell? ⟨g, 0, none⟩ = some (.map (some mb)) := h.cell 0
  have hown := h.own
  have hsz := h.own.size_le
  have hcnt := h.cnt
  have hp := names_perm h
  have HP := Aside0.mk hp
  have hmax : Maps.size D ≤ maxLen := by unfold maxLen; omega
  have hbytes : Maps.size D * 16 ≤ 140737488355328 := by omega
  have HOwn := Aside0.mk hown
  have HMax := Aside0.mk hmax
  have HBytes := Aside0.mk hbytes
  clear h hown hsz hcnt hp hmax hbytes
  refine (callsIn_wide (n := 6)).1 ?_
  have hfK : Fence.wide.fn 42 := trivial
  have hfS : Fence.wide.fn 41 := trivial
  refine callsIn_of_wp Try.func21 rfl trivial ?_ rfl
  simp only [Try.ntmps21, List.size_toArray, List.length_cons, List.length_nil, Nat.reduceAdd, Nat.reduceSub, Array.replicate_succ, Array.replicate_zero, List.push_toArray, List.append_toArray, List.nil_append, List.cons_append]
  gi_wp2_with (first
    | (gi_at_call 42; refine (Try.maps_Keys_42 _ _).mono ?_; rintro e w' ⟨rfl, rfl⟩)
    | (gi_at_call 41; refine (Try.slices_Sorted_keys_41_42 mb n D ptrR w HOwn.out HMax.out HBytes.out).mono ?_; rintro e w' ⟨v, ss, rfl, hS, hrow, hnil, hb⟩))
  go_ret
  refine ⟨v, rfl, ?_, ((Below.refl _ w).alloc (Nat.le_refl _) _).trans (hb.mono (by simp))⟩
  have e1 : (ss.mergeSort fun x y => decide (x ≤ y)) = (nmL d.files).mergeSort leB := mergeSort_of_perm (hS.trans HP.out.symm)
  rw [e1] at hrow
  exact str_row (ownsRow_base_a (base' := w.heap.size) hrow (by simp))
end
end Go.Proofs.Ytoedkemjidgbeaa.Dk
/- What a device says in the laws of a rename and of a cut: plain Lean. -/
namespace Go.Proofs.Ytoedkemjidgbeaa.Dk
open Go Go.RowKit Go.Proofs.YtoedkemjidgbeaaW.PrintWords Go.Proofs.YtoedkemjidgbeaaPw
set_option linter.unusedVariables false
set_option linter.unusedSimpArgs false
theorem append_ok {d : DS} {s : ByteArray} {xs : List Int} (hr : d.ready s = 0) (hl : (xs.length : Int) ≤ d.free) (hg : d.goes = false) : d.append s xs = (0, d.act.put { d.fileOr s with b := (d.fileOr s).b ++ xs }) := by
  unfold DS.append
  rw [if_neg (fun h => h hr), if_neg (by omega)]
  simp only [hg]
  rfl
theorem sync_ok {d : DS} {s : ByteArray} (ht : d.there s = 0) (hg : d.goes = false) : d.sync s = (0, d.act.put { d.fileOr s with safe := (d.fileOr s).b.length }) := by
  unfold DS.sync
  rw [if_neg (fun h => h ht), hg]
  rfl
theorem fall_no {d : DS} {done : DS → DS} (hg : d.goes = false) : d.fall done = (0, done d.act) := by
  unfold DS.fall
  rw [hg]
  rfl
theorem fall_yes {d : DS} {done : DS → DS} (hg : d.goes = true) : d.fall done = (7, (if 0 < d.keep then done d.act else d.act).ends) := by
  unfold DS.fall
  rw [hg]
  rfl
theorem read_ok {d : DS} {s : ByteArray} {f : Fl} (hr : d.ready s = 0) (hf : findF d.files s = some f) : d.read s = (f.b, 0) := by
  have ht : d.there s = 0 := by
    unfold DS.there
    rw [if_neg (fun h => h hr), hf]
    rfl
  unfold DS.read
  rw [if_neg (fun h => h ht), fileOr_some hf]
theorem read_no {d : DS} {s : ByteArray} (hr : d.ready s = 0) (hf : findF d.files s = none) : d.read s = ([], 5) := by
  have ht : d.there s = 5 := by
    unfold DS.there
    rw [if_neg (fun h => h hr), hf]
    rfl
  unfold DS.read
  rw [if_pos (by rw [ht]; decide), ht]
theorem lose_safe (keep : Int) (torn : Bool) (nm : ByteArray) (b : List Int) : lose1 keep torn ⟨nm, b, b.length⟩ = ⟨nm, b, b.length⟩ := by
  have hk : kept keep ⟨nm, b, b.length⟩ = 0 := by unfold kept; simp only; omega
  have hl : loseB keep torn ⟨nm, b, b.length⟩ = b := by
    unfold loseB
    rw [hk, if_neg (fun h => by omega)]
    simp
  unfold lose1
  rw [hl]
/-- A device of 2^20 bytes. -/
abbrev BD (l : List Fl) (down : Bool) (acts fuse keep : Int) (torn : Bool) : DS := ⟨l, 1048576, down, acts, fuse, keep, torn⟩
theorem off_bd (l : List Fl) (acts fuse keep k : Int) (torn t : Bool) : (BD l false acts fuse keep torn).off k t = BD (l.map (lose1 k t)) true acts 0 keep torn := rfl
theorem off_bd2 (l : List Fl) (acts fuse keep k : Int) (torn t : Bool) : (BD l true acts fuse keep torn).off k t = BD l true acts fuse keep torn := rfl
def aN : ByteArray := ⟨#[97]⟩
def bN : ByteArray := ⟨#[98]⟩
def gN : ByteArray := ⟨#[103]⟩
section
variable (xs ys : List Int) (k : Int) (n keep : Int) (torn : Bool)
theorem rn1 (h : xs.length ≤ 4096) : (new 1048576).append aN xs = (0, BD [⟨aN, xs, 0⟩] false 1 0 0 false) := by
  rw [append_ok (by kernel_rfl) (show (xs.length : Int) ≤ 1048576 by omega) (by kernel_rfl)]
  rfl
theorem rn2 : (BD [⟨aN, xs, 0⟩] false 1 0 0 false).sync aN = (0, BD [⟨aN, xs, xs.length⟩] false 2 0 0 false) := by
  rw [sync_ok (by kernel_rfl) (by kernel_rfl)]
  kernel_rfl
theorem rn3 (h : xs.length ≤ 4096) (h2 : ys.length ≤ 4096) : (BD [⟨aN, xs, xs.length⟩] false 2 0 0 false).append bN ys = (0, BD [⟨aN, xs, xs.length⟩, ⟨bN, ys, 0⟩] false 3 0 0 false) := by
  rw [append_ok (by kernel_rfl) (by unfold DS.free sizes; simp only [List.map_cons, List.map_nil, List.sum_cons, List.sum_nil]; omega) (by kernel_rfl)]
  kernel_rfl
theorem rn4 : (BD [⟨aN, xs, xs.length⟩, ⟨bN, ys, 0⟩] false 3 0 0 false).sync bN = (0, BD [⟨aN, xs, xs.length⟩, ⟨bN, ys, ys.length⟩] false 4 0 0 false) := by
  rw [sync_ok (by kernel_rfl) (by kernel_rfl)]
  kernel_rfl
abbrev rnA : DS := BD [⟨aN, xs, xs.length⟩, ⟨bN, ys, ys.length⟩] false 4 (max n 0) keep torn
theorem rn5 : (BD [⟨aN, xs, xs.length⟩, ⟨bN, ys, ys.length⟩] false 4 0 0 false).arm n keep torn = rnA xs ys n keep torn := rfl
theorem rn_there : (rnA xs ys n keep torn).there aN = 0 := by kernel_rfl
theorem rn_name : nameOk bN = true := by kernel_rfl
theorem rn_eq : (rnA xs ys n keep torn).rename aN bN = (rnA xs ys n keep torn).fall fun e => (e.drop aN).put ⟨bN, (e.fileOr aN).b, (e.fileOr aN).safe⟩ := by
  unfold DS.rename
  rw [if_neg (fun h => h (rn_there xs ys n keep torn)), if_neg (by rw [rn_name]; simp)]
theorem rn6a (h : ¬ n = 1) : (rnA xs ys n keep torn).rename aN bN = (0, BD [⟨bN, xs, xs.length⟩] false 5 (if max n 0 = 0 then 0 else max n 0 - 1) keep torn) := by
  rw [rn_eq, fall_no (decide_eq_false (by show ¬ max n 0 = 1; omega))]
  kernel_rfl
theorem rn7a (f : Int) : ((BD [⟨bN, xs, xs.length⟩] false 5 f keep torn).off keep torn) = BD [⟨bN, xs, xs.length⟩] true 5 0 keep torn := by
  rw [off_bd, List.map_cons, List.map_nil, lose_safe]
theorem rn6b (h : n = 1) (hk : 0 < keep) : (rnA xs ys n keep torn).rename aN bN = (7, BD [⟨bN, xs, xs.length⟩] true 5 0 keep torn) := by
  subst h
  rw [rn_eq, fall_yes (by kernel_rfl), if_pos hk]
  have e : ((rnA xs ys 1 keep torn).act.drop aN).put ⟨bN, ((rnA xs ys 1 keep torn).act.fileOr aN).b, ((rnA xs ys 1 keep torn).act.fileOr aN).safe⟩ = BD [⟨bN, xs, xs.length⟩] false 5 0 keep torn := by kernel_rfl
  rw [e]
  show (7, (BD [⟨bN, xs, xs.length⟩] false 5 0 keep torn).off keep torn) = _
  rw [rn7a]
theorem rn6c (h : n = 1) (hk : ¬ 0 < keep) : (rnA xs ys n keep torn).rename aN bN = (7, BD [⟨aN, xs, xs.length⟩, ⟨bN, ys, ys.length⟩] true 5 0 keep torn) := by
  subst h
  rw [rn_eq, fall_yes (by kernel_rfl), if_neg hk]
  show (7, (BD [⟨aN, xs, xs.length⟩, ⟨bN, ys, ys.length⟩] false 5 0 keep torn).off keep torn) = _
  rw [off_bd, List.map_cons, List.map_cons, List.map_nil, lose_safe, lose_safe]
theorem rn9a : (BD [⟨bN, xs, xs.length⟩] false 5 0 keep torn).read aN = ([], 5) := read_no (by kernel_rfl) (by kernel_rfl)
theorem rn9b : (BD [⟨bN, xs, xs.length⟩] false 5 0 keep torn).read bN = (xs, 0) := read_ok (f := ⟨bN, xs, xs.length⟩) (by kernel_rfl) (by kernel_rfl)
theorem rn9c : (BD [⟨aN, xs, xs.length⟩, ⟨bN, ys, ys.length⟩] false 5 0 keep torn).read aN = (xs, 0) := read_ok (f := ⟨aN, xs, xs.length⟩) (by kernel_rfl) (by kernel_rfl)
theorem rn9d : (BD [⟨aN, xs, xs.length⟩, ⟨bN, ys, ys.length⟩] false 5 0 keep torn).read bN = (ys, 0) := read_ok (f := ⟨bN, ys, ys.length⟩) (by kernel_rfl) (by kernel_rfl)
end
end Go.Proofs.Ytoedkemjidgbeaa.Dk
/- DiskRenames. -/
namespace Go.Proofs.Ytoedkemjidgbeaa.Dk
open Go Go.RowKit Go.Proofs.YtoedkemjidgbeaaW.PrintWords Go.Proofs.YtoedkemjidgbeaaW.PrintLast Go.Proofs.YtoedkemjidgbeaaW.PrintMore Go.Proofs.YtoedkemjidgbeaaMy Go.Proofs.Ytoedkemjidgbeaa Go.Proofs.YtoedkemjidgbeaaPw Go.Proofs.Ytoedkemjidgbeaa.PAll
attribute [local go_sem] max2_m min2_m max_two min_two
set_option linter.unusedVariables false
set_option linter.unusedSimpArgs false
theorem Row.arg {w0 W : World} {S : Nat → Prop} {g : Nat} {d : DS} {A : Option Addr} {n : Nat} {xs : List Int} (hC : bK.C w0 A n xs) (h : St w0 S W g d) : Row S W A n xs :=
  Kd.F_mono (Kd.F_below (Kd.C_F (Kd.heap_int .u8) hC) h.bel) (fun k hk hS => by have := h.dev.lo k hS; omega)
theorem C_below {W W' : World} {A : Option Addr} {n : Nat} {xs : List Int} (h : bK.C W A n xs) (hb : Below W.heap.size W W') : bK.C W' A n xs := (Kd.heap_int .u8).C (fun k hk => hb.block k hk) h
theorem str_C {W : World} {A : Option Addr} {n c : Nat} {xs : List Int} (h : bK.C W A n xs) : (convert 22 9 (.slice A n c)).run Try.prog W = .ok (.string (strOfNums xs)) W := Kd.C_string Try.underlying22 Try.underlying5 Try.underlying9 h
section
variable {w W : World} {S : Nat → Prop} {g : Nat} {A0 A1 : Option Addr} {c0 c1 : Nat} {l0 l1 : List Int} {n keep : Int} {torn : Bool}
theorem ru1 (h : l0.length ≤ 4096) (hb : ∀ x ∈ l0, 0 ≤ x ∧ x ≤ 255) : (BD [⟨aN, l0, 0⟩] false 1 0 0 false).Up 1 := by
  have := (DS.Up.new 1048576).append aN hb
  rw [rn1 l0 h] at this
  exact this
theorem ru2 (h : l0.length ≤ 4096) (hb : ∀ x ∈ l0, 0 ≤ x ∧ x ≤ 255) : (BD [⟨aN, l0, l0.length⟩] false 2 0 0 false).Up 2 := by
  have := (ru1 h hb).sync aN
  rw [rn2 l0] at this
  exact this
theorem ru3 (h : l0.length ≤ 4096) (hb : ∀ x ∈ l0, 0 ≤ x ∧ x ≤ 255) (h2 : l1.length ≤ 4096) (hb2 : ∀ x ∈ l1, 0 ≤ x ∧ x ≤ 255) : (BD [⟨aN, l0, l0.length⟩, ⟨bN, l1, 0⟩] false 3 0 0 false).Up 3 := by
  have := (ru2 h hb).append bN hb2
  rw [rn3 l0 l1 h h2] at this
  exact this
theorem ru4 (h : l0.length ≤ 4096) (hb : ∀ x ∈ l0, 0 ≤ x ∧ x ≤ 255) (h2 : l1.length ≤ 4096) (hb2 : ∀ x ∈ l1, 0 ≤ x ∧ x ≤ 255) : (BD [⟨aN, l0, l0.length⟩, ⟨bN, l1, l1.length⟩] false 4 0 0 false).Up 4 := by
  have := (ru3 h hb h2 hb2).sync bN
  rw [rn4 l0 l1] at this
  exact this
theorem ru5 (h : l0.length ≤ 4096) (hb : ∀ x ∈ l0, 0 ≤ x ∧ x ≤ 255) (h2 : l1.length ≤ 4096) (hb2 : ∀ x ∈ l1, 0 ≤ x ∧ x ≤ 255) (hn : n ≤ 9223372036854775807) : (rnA l0 l1 n keep torn).Up 4 := (ru4 h hb h2 hb2).arm n keep torn hn
theorem rc1 (hl : l0.length ≤ 4096) (hb : ∀ x ∈ l0, 0 ≤ x ∧ x ≤ 255) (hC : bK.C w A0 l0.length l0) (h : St w S W g (new 1048576)) : Calls Try.prog 12 #[.pointer (some ⟨g, 0, none⟩), .string ⟨#[97]⟩, .slice A0 l0.length c0] W fun e W' => ∃ S', e = .returned (.int .i64 0) ∧ St w S' W' g (BD [⟨aN, l0, 0⟩] false 1 0 0 false) := by
  refine (Append_S (s := aN) h (DS.Up.new 1048576) (by decide) (Row.arg hC h) (by omega) hb (rn1 l0 hl)).mono ?_
  rintro e W' ⟨S', he, h2, _⟩
  exact ⟨S', he, h2⟩
theorem rc2 (hl : l0.length ≤ 4096) (hb : ∀ x ∈ l0, 0 ≤ x ∧ x ≤ 255) (h : St w S W g (BD [⟨aN, l0, 0⟩] false 1 0 0 false)) : Calls Try.prog 15 #[.pointer (some ⟨g, 0, none⟩), .string ⟨#[97]⟩] W fun e W' => ∃ S', e = .returned (.int .i64 0) ∧ St w S' W' g (BD [⟨aN, l0, l0.length⟩] false 2 0 0 false) := by
  refine (Sync_S (s := aN) h (ru1 hl hb) (by decide) (rn2 l0)).mono ?_
  rintro e W' ⟨S', he, h2, _⟩
  exact ⟨S', he, h2⟩
theorem rc3 (hl : l0.length ≤ 4096) (hb : ∀ x ∈ l0, 0 ≤ x ∧ x ≤ 255) (hl2 : l1.length ≤ 4096) (hb2 : ∀ x ∈ l1, 0 ≤ x ∧ x ≤ 255) (hC : bK.C w A1 l1.length l1) (h : St w S W g (BD [⟨aN, l0, l0.length⟩] false 2 0 0 false)) : Calls Try.prog 12 #[.pointer (some ⟨g, 0, none⟩), .string ⟨#[98]⟩, .slice A1 l1.length c1] W fun e W' => ∃ S', e = .returned (.int .i64 0) ∧ St w S' W' g (BD [⟨aN, l0, l0.length⟩, ⟨bN, l1, 0⟩] false 3 0 0 false) := by
  refine (Append_S (s := bN) h (ru2 hl hb) (by decide) (Row.arg hC h) (by omega) hb2 (rn3 l0 l1 hl hl2)).mono ?_
  rintro e W' ⟨S', he, h2, _⟩
  exact ⟨S', he, h2⟩
theorem rc4 (hl : l0.length ≤ 4096) (hb : ∀ x ∈ l0, 0 ≤ x ∧ x ≤ 255) (hl2 : l1.length ≤ 4096) (hb2 : ∀ x ∈ l1, 0 ≤ x ∧ x ≤ 255) (h : St w S W g (BD [⟨aN, l0, l0.length⟩, ⟨bN, l1, 0⟩] false 3 0 0 false)) : Calls Try.prog 15 #[.pointer (some ⟨g, 0, none⟩), .string ⟨#[98]⟩] W fun e W' => ∃ S', e = .returned (.int .i64 0) ∧ St w S' W' g (BD [⟨aN, l0, l0.length⟩, ⟨bN, l1, l1.length⟩] false 4 0 0 false) := by
  refine (Sync_S (s := bN) h (ru3 hl hb hl2 hb2) (by decide) (rn4 l0 l1)).mono ?_
  rintro e W' ⟨S', he, h2, _⟩
  exact ⟨S', he, h2⟩
theorem rc5  (h : St w S W g (BD [⟨aN, l0, l0.length⟩, ⟨bN, l1, l1.length⟩] false 4 0 0 false)) : Calls Try.prog 14 #[.pointer (some ⟨g, 0, none⟩), .int .i64 n, .int .i64 keep, .bool torn] W fun e W' => ∃ S', e = .returned (.tuple #[]) ∧ St w S' W' g (rnA l0 l1 n keep torn) := by
  refine (Arm_S h (rn5 l0 l1 n keep torn)).mono ?_
  rintro e W' ⟨S', he, h2, _⟩
  exact ⟨S', he, h2⟩
theorem ru6a (hl : l0.length ≤ 4096) (hb : ∀ x ∈ l0, 0 ≤ x ∧ x ≤ 255) (hl2 : l1.length ≤ 4096) (hb2 : ∀ x ∈ l1, 0 ≤ x ∧ x ≤ 255) (hn : n ≤ 9223372036854775807) (hn1 : ¬ n = 1) : (BD [⟨bN, l0, l0.length⟩] false 5 (if max n 0 = 0 then 0 else max n 0 - 1) keep torn).Up 5 := by
  have := (ru5 (keep := keep) (torn := torn) hl hb hl2 hb2 hn).rename aN bN
  rw [rn6a l0 l1 n keep torn hn1] at this
  exact this
theorem ru7a (hl : l0.length ≤ 4096) (hb : ∀ x ∈ l0, 0 ≤ x ∧ x ≤ 255) (hl2 : l1.length ≤ 4096) (hb2 : ∀ x ∈ l1, 0 ≤ x ∧ x ≤ 255) (hn : n ≤ 9223372036854775807) (hn1 : ¬ n = 1) : (BD [⟨bN, l0, l0.length⟩] false 5 0 keep torn).Up 5 := by
  have := ((ru6a (keep := keep) (torn := torn) hl hb hl2 hb2 hn hn1).off keep torn).on
  rw [rn7a] at this
  exact this
theorem rc6a (hl : l0.length ≤ 4096) (hb : ∀ x ∈ l0, 0 ≤ x ∧ x ≤ 255) (hl2 : l1.length ≤ 4096) (hb2 : ∀ x ∈ l1, 0 ≤ x ∧ x ≤ 255) (hn : n ≤ 9223372036854775807) (hn1 : ¬ n = 1) (h : St w S W g (rnA l0 l1 n keep torn)) : Calls Try.prog 18 #[.pointer (some ⟨g, 0, none⟩), .string ⟨#[97]⟩, .string ⟨#[98]⟩] W fun e W' => ∃ S', e = .returned (.int .i64 0) ∧ St w S' W' g (BD [⟨bN, l0, l0.length⟩] false 5 (if max n 0 = 0 then 0 else max n 0 - 1) keep torn) := by
  refine (Rename_S (s := aN) (b := bN) h (ru5 hl hb hl2 hb2 hn) (by decide) (rn6a l0 l1 n keep torn hn1)).mono ?_
  rintro e W' ⟨S', he, h2, _⟩
  exact ⟨S', he, h2⟩
theorem rc7a (hl : l0.length ≤ 4096) (hb : ∀ x ∈ l0, 0 ≤ x ∧ x ≤ 255) (hl2 : l1.length ≤ 4096) (hb2 : ∀ x ∈ l1, 0 ≤ x ∧ x ≤ 255) (hn : n ≤ 9223372036854775807) (hn1 : ¬ n = 1) (h : St w S W g (BD [⟨bN, l0, l0.length⟩] false 5 (if max n 0 = 0 then 0 else max n 0 - 1) keep torn)) : Calls Try.prog 16 #[.pointer (some ⟨g, 0, none⟩), .int .i64 keep, .bool torn] W fun e W' => ∃ S', e = .returned (.tuple #[]) ∧ St w S' W' g (BD [⟨bN, l0, l0.length⟩] true 5 0 keep torn) := by
  refine (Off_S h (ru6a hl hb hl2 hb2 hn hn1) (rn7a l0 keep torn _)).mono ?_
  rintro e W' ⟨S', he, h2, _⟩
  exact ⟨S', he, h2⟩
theorem rc8a  (h : St w S W g (BD [⟨bN, l0, l0.length⟩] true 5 0 keep torn)) : Calls Try.prog 17 #[.pointer (some ⟨g, 0, none⟩)] W fun e W' => ∃ S', e = .returned (.tuple #[]) ∧ St w S' W' g (BD [⟨bN, l0, l0.length⟩] false 5 0 keep torn) := by
  refine (On_S h (d' := BD [⟨bN, l0, l0.length⟩] false 5 0 keep torn) rfl).mono ?_
  rintro e W' ⟨S', he, h2, _⟩
  exact ⟨S', he, h2⟩
theorem rc9a (hl : l0.length ≤ 4096) (hb : ∀ x ∈ l0, 0 ≤ x ∧ x ≤ 255) (hl2 : l1.length ≤ 4096) (hb2 : ∀ x ∈ l1, 0 ≤ x ∧ x ≤ 255) (hn : n ≤ 9223372036854775807) (hn1 : ¬ n = 1) (h : St w S W g (BD [⟨bN, l0, l0.length⟩] false 5 0 keep torn)) : Calls Try.prog 13 #[.pointer (some ⟨g, 0, none⟩), .string ⟨#[97]⟩] W fun e W' => ∃ A n c, e = .returned (.tuple #[.slice A n c, .int .i64 5]) ∧ bK.C W' A n ([]) ∧ St w S W' g (BD [⟨bN, l0, l0.length⟩] false 5 0 keep torn) ∧ Below W.heap.size W W' := by
  refine (Read_S (s := aN) h (ru7a hl hb hl2 hb2 hn hn1) (rn9a l0 keep torn)).mono ?_
  rintro e W' ⟨A, n, c, he, hn, hr, hs, hb, hcv⟩
  exact ⟨A, n, c, he, by rw [hn]; exact (Kd.R_reads' hr).2.2, hs, hb⟩
theorem rc0a (hl : l0.length ≤ 4096) (hb : ∀ x ∈ l0, 0 ≤ x ∧ x ≤ 255) (hl2 : l1.length ≤ 4096) (hb2 : ∀ x ∈ l1, 0 ≤ x ∧ x ≤ 255) (hn : n ≤ 9223372036854775807) (hn1 : ¬ n = 1) (h : St w S W g (BD [⟨bN, l0, l0.length⟩] false 5 0 keep torn)) : Calls Try.prog 13 #[.pointer (some ⟨g, 0, none⟩), .string ⟨#[98]⟩] W fun e W' => ∃ A n c, e = .returned (.tuple #[.slice A n c, .int .i64 0]) ∧ bK.C W' A n (l0) ∧ St w S W' g (BD [⟨bN, l0, l0.length⟩] false 5 0 keep torn) ∧ Below W.heap.size W W' := by
  refine (Read_S (s := bN) h (ru7a hl hb hl2 hb2 hn hn1) (rn9b l0 keep torn)).mono ?_
  rintro e W' ⟨A, n, c, he, hn, hr, hs, hb, hcv⟩
  exact ⟨A, n, c, he, by rw [hn]; exact (Kd.R_reads' hr).2.2, hs, hb⟩
theorem ru6b (hl : l0.length ≤ 4096) (hb : ∀ x ∈ l0, 0 ≤ x ∧ x ≤ 255) (hl2 : l1.length ≤ 4096) (hb2 : ∀ x ∈ l1, 0 ≤ x ∧ x ≤ 255) (hn : n ≤ 9223372036854775807) (hn1 : n = 1) (hk : 0 < keep) : (BD [⟨bN, l0, l0.length⟩] true 5 0 keep torn).Up 5 := by
  have := (ru5 (keep := keep) (torn := torn) hl hb hl2 hb2 hn).rename aN bN
  rw [rn6b l0 l1 n keep torn hn1 hk] at this
  exact this
theorem ru7b (hl : l0.length ≤ 4096) (hb : ∀ x ∈ l0, 0 ≤ x ∧ x ≤ 255) (hl2 : l1.length ≤ 4096) (hb2 : ∀ x ∈ l1, 0 ≤ x ∧ x ≤ 255) (hn : n ≤ 9223372036854775807) (hn1 : n = 1) (hk : 0 < keep) : (BD [⟨bN, l0, l0.length⟩] false 5 0 keep torn).Up 5 := by
  have := ((ru6b (keep := keep) (torn := torn) hl hb hl2 hb2 hn hn1 hk).off keep torn).on
  rw [off_bd2] at this
  exact this
theorem rc6b (hl : l0.length ≤ 4096) (hb : ∀ x ∈ l0, 0 ≤ x ∧ x ≤ 255) (hl2 : l1.length ≤ 4096) (hb2 : ∀ x ∈ l1, 0 ≤ x ∧ x ≤ 255) (hn : n ≤ 9223372036854775807) (hn1 : n = 1) (hk : 0 < keep) (h : St w S W g (rnA l0 l1 n keep torn)) : Calls Try.prog 18 #[.pointer (some ⟨g, 0, none⟩), .string ⟨#[97]⟩, .string ⟨#[98]⟩] W fun e W' => ∃ S', e = .returned (.int .i64 7) ∧ St w S' W' g (BD [⟨bN, l0, l0.length⟩] true 5 0 keep torn) := by
  refine (Rename_S (s := aN) (b := bN) h (ru5 hl hb hl2 hb2 hn) (by decide) (rn6b l0 l1 n keep torn hn1 hk)).mono ?_
  rintro e W' ⟨S', he, h2, _⟩
  exact ⟨S', he, h2⟩
theorem rc7b (hl : l0.length ≤ 4096) (hb : ∀ x ∈ l0, 0 ≤ x ∧ x ≤ 255) (hl2 : l1.length ≤ 4096) (hb2 : ∀ x ∈ l1, 0 ≤ x ∧ x ≤ 255) (hn : n ≤ 9223372036854775807) (hn1 : n = 1) (hk : 0 < keep) (h : St w S W g (BD [⟨bN, l0, l0.length⟩] true 5 0 keep torn)) : Calls Try.prog 16 #[.pointer (some ⟨g, 0, none⟩), .int .i64 keep, .bool torn] W fun e W' => ∃ S', e = .returned (.tuple #[]) ∧ St w S' W' g (BD [⟨bN, l0, l0.length⟩] true 5 0 keep torn) := by
  refine (Off_S h (ru6b hl hb hl2 hb2 hn hn1 hk) (off_bd2 _ _ _ _ _ _ _)).mono ?_
  rintro e W' ⟨S', he, h2, _⟩
  exact ⟨S', he, h2⟩
theorem rc8b  (h : St w S W g (BD [⟨bN, l0, l0.length⟩] true 5 0 keep torn)) : Calls Try.prog 17 #[.pointer (some ⟨g, 0, none⟩)] W fun e W' => ∃ S', e = .returned (.tuple #[]) ∧ St w S' W' g (BD [⟨bN, l0, l0.length⟩] false 5 0 keep torn) := by
  refine (On_S h (d' := BD [⟨bN, l0, l0.length⟩] false 5 0 keep torn) rfl).mono ?_
  rintro e W' ⟨S', he, h2, _⟩
  exact ⟨S', he, h2⟩
theorem rc9b (hl : l0.length ≤ 4096) (hb : ∀ x ∈ l0, 0 ≤ x ∧ x ≤ 255) (hl2 : l1.length ≤ 4096) (hb2 : ∀ x ∈ l1, 0 ≤ x ∧ x ≤ 255) (hn : n ≤ 9223372036854775807) (hn1 : n = 1) (hk : 0 < keep) (h : St w S W g (BD [⟨bN, l0, l0.length⟩] false 5 0 keep torn)) : Calls Try.prog 13 #[.pointer (some ⟨g, 0, none⟩), .string ⟨#[97]⟩] W fun e W' => ∃ A n c, e = .returned (.tuple #[.slice A n c, .int .i64 5]) ∧ bK.C W' A n ([]) ∧ St w S W' g (BD [⟨bN, l0, l0.length⟩] false 5 0 keep torn) ∧ Below W.heap.size W W' := by
  refine (Read_S (s := aN) h (ru7b hl hb hl2 hb2 hn hn1 hk) (rn9a l0 keep torn)).mono ?_
  rintro e W' ⟨A, n, c, he, hn, hr, hs, hb, hcv⟩
  exact ⟨A, n, c, he, by rw [hn]; exact (Kd.R_reads' hr).2.2, hs, hb⟩
theorem rc0b (hl : l0.length ≤ 4096) (hb : ∀ x ∈ l0, 0 ≤ x ∧ x ≤ 255) (hl2 : l1.length ≤ 4096) (hb2 : ∀ x ∈ l1, 0 ≤ x ∧ x ≤ 255) (hn : n ≤ 9223372036854775807) (hn1 : n = 1) (hk : 0 < keep) (h : St w S W g (BD [⟨bN, l0, l0.length⟩] false 5 0 keep torn)) : Calls Try.prog 13 #[.pointer (some ⟨g, 0, none⟩), .string ⟨#[98]⟩] W fun e W' => ∃ A n c, e = .returned (.tuple #[.slice A n c, .int .i64 0]) ∧ bK.C W' A n (l0) ∧ St w S W' g (BD [⟨bN, l0, l0.length⟩] false 5 0 keep torn) ∧ Below W.heap.size W W' := by
  refine (Read_S (s := bN) h (ru7b hl hb hl2 hb2 hn hn1 hk) (rn9b l0 keep torn)).mono ?_
  rintro e W' ⟨A, n, c, he, hn, hr, hs, hb, hcv⟩
  exact ⟨A, n, c, he, by rw [hn]; exact (Kd.R_reads' hr).2.2, hs, hb⟩
theorem ru6c (hl : l0.length ≤ 4096) (hb : ∀ x ∈ l0, 0 ≤ x ∧ x ≤ 255) (hl2 : l1.length ≤ 4096) (hb2 : ∀ x ∈ l1, 0 ≤ x ∧ x ≤ 255) (hn : n ≤ 9223372036854775807) (hn1 : n = 1) (hk : keep ≤ 0) : (BD [⟨aN, l0, l0.length⟩, ⟨bN, l1, l1.length⟩] true 5 0 keep torn).Up 5 := by
  have := (ru5 (keep := keep) (torn := torn) hl hb hl2 hb2 hn).rename aN bN
  rw [rn6c l0 l1 n keep torn hn1 (by omega)] at this
  exact this
theorem ru7c (hl : l0.length ≤ 4096) (hb : ∀ x ∈ l0, 0 ≤ x ∧ x ≤ 255) (hl2 : l1.length ≤ 4096) (hb2 : ∀ x ∈ l1, 0 ≤ x ∧ x ≤ 255) (hn : n ≤ 9223372036854775807) (hn1 : n = 1) (hk : keep ≤ 0) : (BD [⟨aN, l0, l0.length⟩, ⟨bN, l1, l1.length⟩] false 5 0 keep torn).Up 5 := by
  have := ((ru6c (keep := keep) (torn := torn) hl hb hl2 hb2 hn hn1 hk).off keep torn).on
  rw [off_bd2] at this
  exact this
theorem rc6c (hl : l0.length ≤ 4096) (hb : ∀ x ∈ l0, 0 ≤ x ∧ x ≤ 255) (hl2 : l1.length ≤ 4096) (hb2 : ∀ x ∈ l1, 0 ≤ x ∧ x ≤ 255) (hn : n ≤ 9223372036854775807) (hn1 : n = 1) (hk : keep ≤ 0) (h : St w S W g (rnA l0 l1 n keep torn)) : Calls Try.prog 18 #[.pointer (some ⟨g, 0, none⟩), .string ⟨#[97]⟩, .string ⟨#[98]⟩] W fun e W' => ∃ S', e = .returned (.int .i64 7) ∧ St w S' W' g (BD [⟨aN, l0, l0.length⟩, ⟨bN, l1, l1.length⟩] true 5 0 keep torn) := by
  refine (Rename_S (s := aN) (b := bN) h (ru5 hl hb hl2 hb2 hn) (by decide) (rn6c l0 l1 n keep torn hn1 (by omega))).mono ?_
  rintro e W' ⟨S', he, h2, _⟩
  exact ⟨S', he, h2⟩
theorem rc7c (hl : l0.length ≤ 4096) (hb : ∀ x ∈ l0, 0 ≤ x ∧ x ≤ 255) (hl2 : l1.length ≤ 4096) (hb2 : ∀ x ∈ l1, 0 ≤ x ∧ x ≤ 255) (hn : n ≤ 9223372036854775807) (hn1 : n = 1) (hk : keep ≤ 0) (h : St w S W g (BD [⟨aN, l0, l0.length⟩, ⟨bN, l1, l1.length⟩] true 5 0 keep torn)) : Calls Try.prog 16 #[.pointer (some ⟨g, 0, none⟩), .int .i64 keep, .bool torn] W fun e W' => ∃ S', e = .returned (.tuple #[]) ∧ St w S' W' g (BD [⟨aN, l0, l0.length⟩, ⟨bN, l1, l1.length⟩] true 5 0 keep torn) := by
  refine (Off_S h (ru6c hl hb hl2 hb2 hn hn1 hk) (off_bd2 _ _ _ _ _ _ _)).mono ?_
  rintro e W' ⟨S', he, h2, _⟩
  exact ⟨S', he, h2⟩
theorem rc8c  (h : St w S W g (BD [⟨aN, l0, l0.length⟩, ⟨bN, l1, l1.length⟩] true 5 0 keep torn)) : Calls Try.prog 17 #[.pointer (some ⟨g, 0, none⟩)] W fun e W' => ∃ S', e = .returned (.tuple #[]) ∧ St w S' W' g (BD [⟨aN, l0, l0.length⟩, ⟨bN, l1, l1.length⟩] false 5 0 keep torn) := by
  refine (On_S h (d' := BD [⟨aN, l0, l0.length⟩, ⟨bN, l1, l1.length⟩] false 5 0 keep torn) rfl).mono ?_
  rintro e W' ⟨S', he, h2, _⟩
  exact ⟨S', he, h2⟩
theorem rc9c (hl : l0.length ≤ 4096) (hb : ∀ x ∈ l0, 0 ≤ x ∧ x ≤ 255) (hl2 : l1.length ≤ 4096) (hb2 : ∀ x ∈ l1, 0 ≤ x ∧ x ≤ 255) (hn : n ≤ 9223372036854775807) (hn1 : n = 1) (hk : keep ≤ 0) (h : St w S W g (BD [⟨aN, l0, l0.length⟩, ⟨bN, l1, l1.length⟩] false 5 0 keep torn)) : Calls Try.prog 13 #[.pointer (some ⟨g, 0, none⟩), .string ⟨#[97]⟩] W fun e W' => ∃ A n c, e = .returned (.tuple #[.slice A n c, .int .i64 0]) ∧ bK.C W' A n (l0) ∧ St w S W' g (BD [⟨aN, l0, l0.length⟩, ⟨bN, l1, l1.length⟩] false 5 0 keep torn) ∧ Below W.heap.size W W' := by
  refine (Read_S (s := aN) h (ru7c hl hb hl2 hb2 hn hn1 hk) (rn9c l0 l1 keep torn)).mono ?_
  rintro e W' ⟨A, n, c, he, hn, hr, hs, hb, hcv⟩
  exact ⟨A, n, c, he, by rw [hn]; exact (Kd.R_reads' hr).2.2, hs, hb⟩
theorem rc0c (hl : l0.length ≤ 4096) (hb : ∀ x ∈ l0, 0 ≤ x ∧ x ≤ 255) (hl2 : l1.length ≤ 4096) (hb2 : ∀ x ∈ l1, 0 ≤ x ∧ x ≤ 255) (hn : n ≤ 9223372036854775807) (hn1 : n = 1) (hk : keep ≤ 0) (h : St w S W g (BD [⟨aN, l0, l0.length⟩, ⟨bN, l1, l1.length⟩] false 5 0 keep torn)) : Calls Try.prog 13 #[.pointer (some ⟨g, 0, none⟩), .string ⟨#[98]⟩] W fun e W' => ∃ A n c, e = .returned (.tuple #[.slice A n c, .int .i64 0]) ∧ bK.C W' A n (l1) ∧ St w S W' g (BD [⟨aN, l0, l0.length⟩, ⟨bN, l1, l1.length⟩] false 5 0 keep torn) ∧ Below W.heap.size W W' := by
  refine (Read_S (s := bN) h (ru7c hl hb hl2 hb2 hn hn1 hk) (rn9d l0 l1 keep torn)).mono ?_
  rintro e W' ⟨A, n, c, he, hn, hr, hs, hb, hcv⟩
  exact ⟨A, n, c, he, by rw [hn]; exact (Kd.R_reads' hr).2.2, hs, hb⟩
set_option maxHeartbeats 4000000 in
set_option maxRecDepth 100000 in
theorem ren_long (w : World) (h : 4096 < l0.length ∨ 4096 < l1.length) : Calls Try.prog 5 #[.slice A0 l0.length c0, .slice A1 l1.length c1, .int .i64 n, .int .i64 keep, .bool torn] w fun e w' => e = .returned (.bool true) ∧ Below w.heap.size w w' := by
  by_cases c1' : 4096 < l0.length
  · have c1b : decide ((4096 : Int) < (l0.length : Int)) = true := decide_eq_true (by omega)
    clear h
    go_enter Try.func5, Try.ntmps5
    go_wp2_with (first | (go_at_call 10; refine (alive_Q w).mono ?_; rintro e w1 ⟨rfl, hb⟩))
    go_ret
    exact ⟨rfl, hb⟩
  · have c2' : 4096 < l1.length := h.resolve_left c1'
    have c1b : decide ((4096 : Int) < (l0.length : Int)) = false := decide_eq_false (by omega)
    have c2b : decide ((4096 : Int) < (l1.length : Int)) = true := decide_eq_true (by omega)
    clear h
    go_enter Try.func5, Try.ntmps5
    go_wp2_with (first | (go_at_call 10; refine (alive_Q w).mono ?_; rintro e w1 ⟨rfl, hb⟩))
    go_ret
    exact ⟨rfl, hb⟩
set_option maxHeartbeats 4000000 in
set_option maxRecDepth 100000 in
theorem ren_a (hl : l0.length ≤ 4096) (hb : ∀ x ∈ l0, 0 ≤ x ∧ x ≤ 255) (hl2 : l1.length ≤ 4096) (hb2 : ∀ x ∈ l1, 0 ≤ x ∧ x ≤ 255) (hn : n ≤ 9223372036854775807) (hn1 : ¬ n = 1) (hC0 : bK.C w A0 l0.length l0) (hC1 : bK.C w A1 l1.length l1) : Calls Try.prog 5 #[.slice A0 l0.length c0, .slice A1 l1.length c1, .int .i64 n, .int .i64 keep, .bool torn] w fun e w' => e = .returned (.bool true) ∧ Below w.heap.size w w' := by
  have c1b : decide ((4096 : Int) < (l0.length : Int)) = false := decide_eq_false (by omega)
  have c2b : decide ((4096 : Int) < (l1.length : Int)) = false := decide_eq_false (by omega)
  have HL := Aside0.mk hl
  have HB := Aside0.mk hb
  have HL2 := Aside0.mk hl2
  have HB2 := Aside0.mk hb2
  have HN := Aside0.mk hn
  have HN1 := Aside0.mk hn1
  have HC0 := Aside0.mk hC0
  have HC1 := Aside0.mk hC1
  clear hl hb hl2 hb2 hn hC0 hC1 hn1
  obtain ⟨m0, hm0⟩ : ∃ m, m = l0.length := ⟨_, rfl⟩
  obtain ⟨m1, hm1⟩ : ∃ m, m = l1.length := ⟨_, rfl⟩
  have HM0 := Aside0.mk hm0
  have HM1 := Aside0.mk hm1
  rw [← hm0] at c1b
  rw [← hm1] at c2b
  rw [← hm0, ← hm1]
  clear hm0 hm1
  go_enter Try.func5, Try.ntmps5
  go_wp2_with (first
    | (go_at_call 10; refine (alive_Q w).mono ?_; rintro e w1 ⟨rfl, hb⟩; have HA := Aside0.mk hb; clear hb)
    | (go_at_call 11; refine (New_S' w w1 HA.out 1048576).mono ?_; rintro e w2 ⟨g, S0, rfl, hs, _, _⟩; have H0 := Aside0.mk hs; clear hs HA)
    | (go_at_call 12; have hq := rc1 (c0 := c0) HL.out HB.out HC0.out H0.out; rw [← HM0.out] at hq; refine hq.mono ?_; clear hq; rintro e w3 ⟨S1, rfl, hs⟩; have H1 := Aside0.mk hs; clear hs H0)
    | (go_at_call 15; refine (rc2 HL.out HB.out H1.out).mono ?_; rintro e w4 ⟨S2, rfl, hs⟩; have H2 := Aside0.mk hs; clear hs H1)
    | (go_at_call 12; have hq := rc3 (c1 := c1) HL.out HB.out HL2.out HB2.out HC1.out H2.out; rw [← HM1.out] at hq; refine hq.mono ?_; clear hq; rintro e w5 ⟨S3, rfl, hs⟩; have H3 := Aside0.mk hs; clear hs H2)
    | (go_at_call 15; refine (rc4 HL.out HB.out HL2.out HB2.out H3.out).mono ?_; rintro e w6 ⟨S4, rfl, hs⟩; have H4 := Aside0.mk hs; clear hs H3)
    | (go_at_call 14; refine (rc5 H4.out).mono ?_; rintro e w7 ⟨S5, rfl, hs⟩; have H5 := Aside0.mk hs; clear hs H4)
    | (go_at_call 18; refine (rc6a HL.out HB.out HL2.out HB2.out HN.out HN1.out H5.out).mono ?_; rintro e w8 ⟨S6, rfl, hs⟩; have H6 := Aside0.mk hs; clear hs H5)
    | (go_at_call 16; refine (rc7a HL.out HB.out HL2.out HB2.out HN.out HN1.out H6.out).mono ?_; rintro e w9 ⟨S7, rfl, hs⟩; have H7 := Aside0.mk hs; clear hs H6)
    | (go_at_call 17; refine (rc8a H7.out).mono ?_; rintro e w10 ⟨S8, rfl, hs⟩; have H8 := Aside0.mk hs; clear hs H7)
    | (go_at_call 13; refine (rc9a HL.out HB.out HL2.out HB2.out HN.out HN1.out H8.out).mono ?_; rintro e w11 ⟨X1, n1, q1, rfl, hx1, hs, _⟩; have H9 := Aside0.mk hs; have HX1 := Aside0.mk hx1; clear hs H8 hx1)
    | (go_at_call 13; refine (rc0a HL.out HB.out HL2.out HB2.out HN.out HN1.out H9.out).mono ?_; rintro e w12 ⟨X2, n2, q2, rfl, hx2, hs, hb12⟩; have H10 := Aside0.mk hs; have v2 := str_C (c := q2) hx2; have v1 := str_C (c := q1) (C_below HX1.out hb12); have v0 := str_C (c := c0) (C_below HC0.out hs.bel); have v3 := str_C (c := c1) (C_below HC1.out hs.bel); rw [← HM0.out] at v0; rw [← HM1.out] at v3; clear hs H9 hx2 hb12))
  go_ret
  exact ⟨by simp, H10.out.bel⟩
set_option maxHeartbeats 4000000 in
set_option maxRecDepth 100000 in
theorem ren_b (hl : l0.length ≤ 4096) (hb : ∀ x ∈ l0, 0 ≤ x ∧ x ≤ 255) (hl2 : l1.length ≤ 4096) (hb2 : ∀ x ∈ l1, 0 ≤ x ∧ x ≤ 255) (hn : n ≤ 9223372036854775807) (hn1 : n = 1) (hk : 0 < keep) (hC0 : bK.C w A0 l0.length l0) (hC1 : bK.C w A1 l1.length l1) : Calls Try.prog 5 #[.slice A0 l0.length c0, .slice A1 l1.length c1, .int .i64 n, .int .i64 keep, .bool torn] w fun e w' => e = .returned (.bool true) ∧ Below w.heap.size w w' := by
  have c1b : decide ((4096 : Int) < (l0.length : Int)) = false := decide_eq_false (by omega)
  have c2b : decide ((4096 : Int) < (l1.length : Int)) = false := decide_eq_false (by omega)
  have kb : decide ((0 : Int) < keep) = true := decide_eq_true hk
  have kb2 : decide (keep ≤ 0) = false := decide_eq_false (by omega)
  have HL := Aside0.mk hl
  have HB := Aside0.mk hb
  have HL2 := Aside0.mk hl2
  have HB2 := Aside0.mk hb2
  have HN := Aside0.mk hn
  have HN1 := Aside0.mk hn1
  have HK := Aside0.mk hk
  have HC0 := Aside0.mk hC0
  have HC1 := Aside0.mk hC1
  clear hl hb hl2 hb2 hn hC0 hC1 hn1 hk
  obtain ⟨m0, hm0⟩ : ∃ m, m = l0.length := ⟨_, rfl⟩
  obtain ⟨m1, hm1⟩ : ∃ m, m = l1.length := ⟨_, rfl⟩
  have HM0 := Aside0.mk hm0
  have HM1 := Aside0.mk hm1
  rw [← hm0] at c1b
  rw [← hm1] at c2b
  rw [← hm0, ← hm1]
  clear hm0 hm1
  go_enter Try.func5, Try.ntmps5
  go_wp2_with (first
    | (go_at_call 10; refine (alive_Q w).mono ?_; rintro e w1 ⟨rfl, hb⟩; have HA := Aside0.mk hb; clear hb)
    | (go_at_call 11; refine (New_S' w w1 HA.out 1048576).mono ?_; rintro e w2 ⟨g, S0, rfl, hs, _, _⟩; have H0 := Aside0.mk hs; clear hs HA)
    | (go_at_call 12; have hq := rc1 (c0 := c0) HL.out HB.out HC0.out H0.out; rw [← HM0.out] at hq; refine hq.mono ?_; clear hq; rintro e w3 ⟨S1, rfl, hs⟩; have H1 := Aside0.mk hs; clear hs H0)
    | (go_at_call 15; refine (rc2 HL.out HB.out H1.out).mono ?_; rintro e w4 ⟨S2, rfl, hs⟩; have H2 := Aside0.mk hs; clear hs H1)
    | (go_at_call 12; have hq := rc3 (c1 := c1) HL.out HB.out HL2.out HB2.out HC1.out H2.out; rw [← HM1.out] at hq; refine hq.mono ?_; clear hq; rintro e w5 ⟨S3, rfl, hs⟩; have H3 := Aside0.mk hs; clear hs H2)
    | (go_at_call 15; refine (rc4 HL.out HB.out HL2.out HB2.out H3.out).mono ?_; rintro e w6 ⟨S4, rfl, hs⟩; have H4 := Aside0.mk hs; clear hs H3)
    | (go_at_call 14; refine (rc5 H4.out).mono ?_; rintro e w7 ⟨S5, rfl, hs⟩; have H5 := Aside0.mk hs; clear hs H4)
    | (go_at_call 18; refine (rc6b HL.out HB.out HL2.out HB2.out HN.out HN1.out HK.out H5.out).mono ?_; rintro e w8 ⟨S6, rfl, hs⟩; have H6 := Aside0.mk hs; clear hs H5)
    | (go_at_call 16; refine (rc7b HL.out HB.out HL2.out HB2.out HN.out HN1.out HK.out H6.out).mono ?_; rintro e w9 ⟨S7, rfl, hs⟩; have H7 := Aside0.mk hs; clear hs H6)
    | (go_at_call 17; refine (rc8b H7.out).mono ?_; rintro e w10 ⟨S8, rfl, hs⟩; have H8 := Aside0.mk hs; clear hs H7)
    | (go_at_call 13; refine (rc9b HL.out HB.out HL2.out HB2.out HN.out HN1.out HK.out H8.out).mono ?_; rintro e w11 ⟨X1, n1, q1, rfl, hx1, hs, _⟩; have H9 := Aside0.mk hs; have HX1 := Aside0.mk hx1; clear hs H8 hx1)
    | (go_at_call 13; refine (rc0b HL.out HB.out HL2.out HB2.out HN.out HN1.out HK.out H9.out).mono ?_; rintro e w12 ⟨X2, n2, q2, rfl, hx2, hs, hb12⟩; have H10 := Aside0.mk hs; have v2 := str_C (c := q2) hx2; have v1 := str_C (c := q1) (C_below HX1.out hb12); have v0 := str_C (c := c0) (C_below HC0.out hs.bel); have v3 := str_C (c := c1) (C_below HC1.out hs.bel); rw [← HM0.out] at v0; rw [← HM1.out] at v3; clear hs H9 hx2 hb12))
  go_ret
  exact ⟨by simp, H10.out.bel⟩
set_option maxHeartbeats 4000000 in
set_option maxRecDepth 100000 in
theorem ren_c (hl : l0.length ≤ 4096) (hb : ∀ x ∈ l0, 0 ≤ x ∧ x ≤ 255) (hl2 : l1.length ≤ 4096) (hb2 : ∀ x ∈ l1, 0 ≤ x ∧ x ≤ 255) (hn : n ≤ 9223372036854775807) (hn1 : n = 1) (hk : keep ≤ 0) (hC0 : bK.C w A0 l0.length l0) (hC1 : bK.C w A1 l1.length l1) : Calls Try.prog 5 #[.slice A0 l0.length c0, .slice A1 l1.length c1, .int .i64 n, .int .i64 keep, .bool torn] w fun e w' => e = .returned (.bool true) ∧ Below w.heap.size w w' := by
  have c1b : decide ((4096 : Int) < (l0.length : Int)) = false := decide_eq_false (by omega)
  have c2b : decide ((4096 : Int) < (l1.length : Int)) = false := decide_eq_false (by omega)
  have kb : decide ((0 : Int) < keep) = false := decide_eq_false (by omega)
  have kb2 : decide (keep ≤ 0) = true := decide_eq_true (by omega)
  have HL := Aside0.mk hl
  have HB := Aside0.mk hb
  have HL2 := Aside0.mk hl2
  have HB2 := Aside0.mk hb2
  have HN := Aside0.mk hn
  have HN1 := Aside0.mk hn1
  have HK := Aside0.mk hk
  have HC0 := Aside0.mk hC0
  have HC1 := Aside0.mk hC1
  clear hl hb hl2 hb2 hn hC0 hC1 hn1 hk
  obtain ⟨m0, hm0⟩ : ∃ m, m = l0.length := ⟨_, rfl⟩
  obtain ⟨m1, hm1⟩ : ∃ m, m = l1.length := ⟨_, rfl⟩
  have HM0 := Aside0.mk hm0
  have HM1 := Aside0.mk hm1
  rw [← hm0] at c1b
  rw [← hm1] at c2b
  rw [← hm0, ← hm1]
  clear hm0 hm1
  go_enter Try.func5, Try.ntmps5
  go_wp2_with (first
    | (go_at_call 10; refine (alive_Q w).mono ?_; rintro e w1 ⟨rfl, hb⟩; have HA := Aside0.mk hb; clear hb)
    | (go_at_call 11; refine (New_S' w w1 HA.out 1048576).mono ?_; rintro e w2 ⟨g, S0, rfl, hs, _, _⟩; have H0 := Aside0.mk hs; clear hs HA)
    | (go_at_call 12; have hq := rc1 (c0 := c0) HL.out HB.out HC0.out H0.out; rw [← HM0.out] at hq; refine hq.mono ?_; clear hq; rintro e w3 ⟨S1, rfl, hs⟩; have H1 := Aside0.mk hs; clear hs H0)
    | (go_at_call 15; refine (rc2 HL.out HB.out H1.out).mono ?_; rintro e w4 ⟨S2, rfl, hs⟩; have H2 := Aside0.mk hs; clear hs H1)
    | (go_at_call 12; have hq := rc3 (c1 := c1) HL.out HB.out HL2.out HB2.out HC1.out H2.out; rw [← HM1.out] at hq; refine hq.mono ?_; clear hq; rintro e w5 ⟨S3, rfl, hs⟩; have H3 := Aside0.mk hs; clear hs H2)
    | (go_at_call 15; refine (rc4 HL.out HB.out HL2.out HB2.out H3.out).mono ?_; rintro e w6 ⟨S4, rfl, hs⟩; have H4 := Aside0.mk hs; clear hs H3)
    | (go_at_call 14; refine (rc5 H4.out).mono ?_; rintro e w7 ⟨S5, rfl, hs⟩; have H5 := Aside0.mk hs; clear hs H4)
    | (go_at_call 18; refine (rc6c HL.out HB.out HL2.out HB2.out HN.out HN1.out HK.out H5.out).mono ?_; rintro e w8 ⟨S6, rfl, hs⟩; have H6 := Aside0.mk hs; clear hs H5)
    | (go_at_call 16; refine (rc7c HL.out HB.out HL2.out HB2.out HN.out HN1.out HK.out H6.out).mono ?_; rintro e w9 ⟨S7, rfl, hs⟩; have H7 := Aside0.mk hs; clear hs H6)
    | (go_at_call 17; refine (rc8c H7.out).mono ?_; rintro e w10 ⟨S8, rfl, hs⟩; have H8 := Aside0.mk hs; clear hs H7)
    | (go_at_call 13; refine (rc9c HL.out HB.out HL2.out HB2.out HN.out HN1.out HK.out H8.out).mono ?_; rintro e w11 ⟨X1, n1, q1, rfl, hx1, hs, _⟩; have H9 := Aside0.mk hs; have HX1 := Aside0.mk hx1; clear hs H8 hx1)
    | (go_at_call 13; refine (rc0c HL.out HB.out HL2.out HB2.out HN.out HN1.out HK.out H9.out).mono ?_; rintro e w12 ⟨X2, n2, q2, rfl, hx2, hs, hb12⟩; have H10 := Aside0.mk hs; have v2 := str_C (c := q2) hx2; have v1 := str_C (c := q1) (C_below HX1.out hb12); have v0 := str_C (c := c0) (C_below HC0.out hs.bel); have v3 := str_C (c := c1) (C_below HC1.out hs.bel); rw [← HM0.out] at v0; rw [← HM1.out] at v3; clear hs H9 hx2 hb12))
  go_ret
  exact ⟨by simp, H10.out.bel⟩
end
theorem Renames_Q (A0 : Option Addr) (c0 : Nat) (l0 : List Int) (A1 : Option Addr) (c1 : Nat) (l1 : List Int) (n keep : Int) (torn : Bool) (w : World) (hC0 : bK.C w A0 l0.length l0) (hC1 : bK.C w A1 l1.length l1) (hb0 : ∀ x ∈ l0, 0 ≤ x ∧ x ≤ 255) (hb1 : ∀ x ∈ l1, 0 ≤ x ∧ x ≤ 255) (hn : n ≤ 9223372036854775807) :
    Calls Try.prog 5 #[.slice A0 l0.length c0, .slice A1 l1.length c1, .int .i64 n, .int .i64 keep, .bool torn] w fun e w' => e = .returned (.bool true) ∧ Below w.heap.size w w' := by
  by_cases h : 4096 < l0.length ∨ 4096 < l1.length
  · exact ren_long w h
  · by_cases h1 : n = 1
    · by_cases hk : 0 < keep
      · exact ren_b (by omega) hb0 (by omega) hb1 hn h1 hk hC0 hC1
      · exact ren_c (by omega) hb0 (by omega) hb1 hn h1 (by omega) hC0 hC1
    · exact ren_a (by omega) hb0 (by omega) hb1 hn h1 hC0 hC1
end Go.Proofs.Ytoedkemjidgbeaa.Dk
/- The law's row: DiskRenames. -/
namespace Go.Proofs.Ytoedkemjidgbeaa.Dk
open Go Go.RowKit Go.Proofs.YtoedkemjidgbeaaW.PrintWords Go.Proofs.YtoedkemjidgbeaaW.PrintLast Go.Proofs.YtoedkemjidgbeaaW.PrintMore Go.Proofs.YtoedkemjidgbeaaMy Go.Proofs.Ytoedkemjidgbeaa Go.Proofs.YtoedkemjidgbeaaPw Go.Proofs.Ytoedkemjidgbeaa.PAll
set_option linter.unusedVariables false
theorem byt_le {l : List Int} (h : ∀ x ∈ l, (Lit.int .u8 x).wf = true) : ∀ x ∈ l, 0 ≤ x ∧ x ≤ 255 := fun x hx => by have := byt_wf h x hx; omega
theorem i64_le {n : Int} (h : (Lit.int .i64 n).wf = true) : -9223372036854775808 ≤ n ∧ n ≤ 9223372036854775807 := by
  simp only [Lit.wf, IntKind.min, IntKind.max, IntKind.signed, IntKind.bits, Bool.and_eq_true] at h
  simp at h
  omega
theorem renames_walk (a0 : Option Addr) (len0 cap0 : Nat) (z0 : List Int) (a1 : Option Addr) (len1 cap1 : Nat) (z1 : List Int) (a2 : Int) (a3 : Int) (a4 : Bool) (w : World) (w0 : (a0 = none ∧ len0 = 0 ∧ cap0 = 0 ∧ z0 = []) ∨ ∃ x, a0 = some x ∧ len0 ≤ cap0 ∧ cap0 ≤ maxLen ∧ z0.length = cap0 ∧ (∀ i, i < z0.length → w.cell? (x.add i) = some (.int .u8 (z0.getD i 0))) ∧ ∀ n ∈ z0, (Lit.int .u8 n).wf = true) (y0 : len0 * 1 ≤ 140737488351232) (w1 : (a1 = none ∧ len1 = 0 ∧ cap1 = 0 ∧ z1 = []) ∨ ∃ x, a1 = some x ∧ len1 ≤ cap1 ∧ cap1 ≤ maxLen ∧ z1.length = cap1 ∧ (∀ i, i < z1.length → w.cell? (x.add i) = some (.int .u8 (z1.getD i 0))) ∧ ∀ n ∈ z1, (Lit.int .u8 n).wf = true) (y1 : len1 * 1 ≤ 140737488351232) (w2 : (Lit.int .i64 a2).wf = true) (w3 : (Lit.int .i64 a3).wf = true) :
    Calls Try.prog 5 #[.slice a0 len0 cap0, .slice a1 len1 cap1, .int .i64 a2, .int .i64 a3, .bool a4] w fun e w' => e = .returned (.bool true) ∧ Below w.heap.size w w' := by
  obtain ⟨l0, rfl, hr0, hm0, hw0, hc0⟩ := ReadsInt.ofRowC w0
  obtain ⟨l1, rfl, hr1, hm1, hw1, hc1⟩ := ReadsInt.ofRowC w1
  exact Renames_Q a0 cap0 l0 a1 cap1 l1 a2 a3 a4 w (Kd.C_of_reads (d := (0 : Int)) (h1 := fun _ => rfl) hr0) (Kd.C_of_reads (d := (0 : Int)) (h1 := fun _ => rfl) hr1) (byt_le hw0) (byt_le hw1) (i64_le w2).2
end Go.Proofs.Ytoedkemjidgbeaa.Dk
/- DiskCuts. -/
namespace Go.Proofs.Ytoedkemjidgbeaa.Dk
open Go Go.RowKit Go.Proofs.YtoedkemjidgbeaaW.PrintWords Go.Proofs.YtoedkemjidgbeaaW.PrintLast Go.Proofs.YtoedkemjidgbeaaW.PrintMore Go.Proofs.YtoedkemjidgbeaaMy Go.Proofs.Ytoedkemjidgbeaa Go.Proofs.YtoedkemjidgbeaaPw Go.Proofs.Ytoedkemjidgbeaa.PAll
attribute [local go_sem] max2_m min2_m max_two min_two
set_option linter.unusedVariables false
set_option linter.unusedSimpArgs false
section
variable (xs : List Int) (n keep : Int) (s : Nat) (a : Int)
theorem cu1 (h : xs.length ≤ 4096) : (new 1048576).append fN xs = (0, BD [⟨fN, xs, 0⟩] false 1 0 0 false) := by
  rw [append_ok (by kernel_rfl) (show (xs.length : Int) ≤ 1048576 by omega) (by kernel_rfl)]
  rfl
theorem cu2 (h : xs.length ≤ 4096) : (BD [⟨fN, xs, 0⟩] false 1 0 0 false).append gN xs = (0, BD [⟨fN, xs, 0⟩, ⟨gN, xs, 0⟩] false 2 0 0 false) := by
  rw [append_ok (by kernel_rfl) (by unfold DS.free sizes; simp only [List.map_cons, List.map_nil, List.sum_cons, List.sum_nil]; omega) (by kernel_rfl)]
  kernel_rfl
theorem cu3 : (BD [⟨fN, xs, 0⟩, ⟨gN, xs, 0⟩] false 2 0 0 false).sync fN = (0, BD [⟨fN, xs, xs.length⟩, ⟨gN, xs, 0⟩] false 3 0 0 false) := by
  rw [sync_ok (by kernel_rfl) (by kernel_rfl)]
  kernel_rfl
abbrev cuF : Fl := ⟨fN, xs.take n.toNat, min s (xs.take n.toNat).length⟩
theorem cu4t : (BD [⟨fN, xs, s⟩, ⟨gN, xs, 0⟩] false a 0 0 false).there fN = 0 := by kernel_rfl
theorem cu4 (hn : 0 ≤ n) : (BD [⟨fN, xs, s⟩, ⟨gN, xs, 0⟩] false a 0 0 false).cut fN n = (0, BD [cuF xs n s, ⟨gN, xs, 0⟩] false (a + 1) 0 0 false) := by
  unfold DS.cut
  rw [if_neg (fun h => h (cu4t xs s a)), if_neg (by omega), fall_no (by kernel_rfl)]
  kernel_rfl
theorem cu5t (F : List Int) (q : Nat) : (BD [⟨fN, F, q⟩, ⟨gN, xs, 0⟩] false a 0 0 false).there gN = 0 := by kernel_rfl
theorem cu5' (F : List Int) (q : Nat) : (BD [⟨fN, F, q⟩, ⟨gN, xs, 0⟩] false a 0 0 false).remove gN = (0, BD [⟨fN, F, q⟩] false (a + 1) 0 0 false) := by
  unfold DS.remove
  rw [if_neg (fun h => h (cu5t xs a F q)), fall_no (by kernel_rfl)]
  kernel_rfl
theorem cu5 : (BD [cuF xs n s, ⟨gN, xs, 0⟩] false (a + 1) 0 0 false).remove gN = (0, BD [cuF xs n s] false (a + 1 + 1) 0 0 false) := cu5' xs (a + 1) (xs.take n.toNat) (min s (xs.take n.toNat).length)
abbrev cuL : Fl := lose1 keep false (cuF xs n s)
theorem cu6 : (BD [cuF xs n s] false (a + 1 + 1) 0 0 false).off keep false = BD [cuL xs n keep s] true (a + 1 + 1) 0 0 false := rfl
theorem cu7 : (BD [cuL xs n keep s] true (a + 1 + 1) 0 0 false).on = BD [cuL xs n keep s] false (a + 1 + 1) 0 0 false := rfl
theorem cu8' (F : List Int) (q : Nat) : (BD [⟨fN, F, q⟩] false a 0 0 false).read fN = (F, 0) := read_ok (f := ⟨fN, F, q⟩) (by kernel_rfl) (by kernel_rfl)
theorem cu8 : (BD [cuL xs n keep s] false (a + 1 + 1) 0 0 false).read fN = (loseB keep false (cuF xs n s), 0) := cu8' (a + 1 + 1) _ _
theorem cu9' (F : List Int) (q : Nat) : (BD [⟨fN, F, q⟩] false a 0 0 false).read gN = ([], 5) := read_no (by kernel_rfl) (by kernel_rfl)
theorem cu9 : (BD [cuL xs n keep s] false (a + 1 + 1) 0 0 false).read gN = ([], 5) := cu9' (a + 1 + 1) _ _
theorem cuB : loseB keep false (cuF xs n s) = (xs.take n.toNat).take (min s (xs.take n.toNat).length + kept keep (cuF xs n s)) := if_neg (by simp)
/-- What is left: so many bytes. -/
theorem cu_want (hn : 0 ≤ n) (hl : n ≤ xs.length) (want : Int) (hw : want = (if s = 0 ∧ keep < n then max keep 0 else n)) (hs : s = 0 ∨ s = xs.length) (h0 : s = 0 → xs.length = 0 ∨ True) : loseB keep false (cuF xs n s) = xs.take want.toNat := by
  have hk : kept keep (cuF xs n s) = (min (max keep 0) (((xs.take n.toNat).length : Int) - (min s (xs.take n.toNat).length : Nat))).toNat := rfl
  rw [cuB, hk, List.take_take, List.length_take]
  congr 1
  subst hw
  split <;> omega
end
theorem cup1 {xs : List Int} (h : xs.length ≤ 4096) (hb : ∀ x ∈ xs, 0 ≤ x ∧ x ≤ 255) : (BD [⟨fN, xs, 0⟩] false 1 0 0 false).Up 1 := by
  have := (DS.Up.new 1048576).append fN hb
  rw [cu1 xs h] at this
  exact this
theorem cup2 {xs : List Int} (h : xs.length ≤ 4096) (hb : ∀ x ∈ xs, 0 ≤ x ∧ x ≤ 255) : (BD [⟨fN, xs, 0⟩, ⟨gN, xs, 0⟩] false 2 0 0 false).Up 3 := by
  have := (cup1 h hb).append gN hb
  rw [cu2 xs h] at this
  exact this.more
theorem cup3 {xs : List Int} (h : xs.length ≤ 4096) (hb : ∀ x ∈ xs, 0 ≤ x ∧ x ≤ 255) : (BD [⟨fN, xs, xs.length⟩, ⟨gN, xs, 0⟩] false 3 0 0 false).Up 3 := by
  have := (DS.Up.new 1048576).append fN hb
  rw [cu1 xs h] at this
  have := this.append gN hb
  rw [cu2 xs h] at this
  have := this.sync fN
  rw [cu3 xs] at this
  exact this
theorem cup4 {xs : List Int} {s : Nat} {a n : Int} (hn : 0 ≤ n) (hu : (BD [⟨fN, xs, s⟩, ⟨gN, xs, 0⟩] false a 0 0 false).Up 3) : (BD [cuF xs n s, ⟨gN, xs, 0⟩] false (a + 1) 0 0 false).Up 4 := by
  have := hu.cut fN n
  rw [cu4 xs n s a hn] at this
  exact this
theorem cup5 {xs : List Int} {s : Nat} {a n : Int} (hn : 0 ≤ n) (hu : (BD [⟨fN, xs, s⟩, ⟨gN, xs, 0⟩] false a 0 0 false).Up 3) : (BD [cuF xs n s] false (a + 1 + 1) 0 0 false).Up 5 := by
  have := (cup4 hn hu).remove gN
  rw [cu5 xs n s a] at this
  exact this
theorem cup6 {xs : List Int} {s : Nat} {a n keep : Int} (hn : 0 ≤ n) (hu : (BD [⟨fN, xs, s⟩, ⟨gN, xs, 0⟩] false a 0 0 false).Up 3) : (BD [cuL xs n keep s] false (a + 1 + 1) 0 0 false).Up 5 := ((cup5 hn hu).off keep false).on
section
variable {w W : World} {S : Nat → Prop} {g : Nat} {A0 : Option Addr} {c0 : Nat} {l0 : List Int} {n keep : Int} {s : Nat} {a : Int}
theorem cc1 (hl : l0.length ≤ 4096) (hb : ∀ x ∈ l0, 0 ≤ x ∧ x ≤ 255) (hC : bK.C w A0 l0.length l0) (h : St w S W g (new 1048576)) : Calls Try.prog 12 #[.pointer (some ⟨g, 0, none⟩), .string ⟨#[102]⟩, .slice A0 l0.length c0] W fun e W' => ∃ S', e = .returned (.int .i64 0) ∧ St w S' W' g (BD [⟨fN, l0, 0⟩] false 1 0 0 false) := by
  refine (Append_S (s := fN) h (DS.Up.new 1048576) (by decide) (Row.arg hC h) (by omega) hb (cu1 l0 hl)).mono ?_
  rintro e W' ⟨S', he, h2, _⟩
  exact ⟨S', he, h2⟩
theorem cc2 (hl : l0.length ≤ 4096) (hb : ∀ x ∈ l0, 0 ≤ x ∧ x ≤ 255) (hC : bK.C w A0 l0.length l0) (h : St w S W g (BD [⟨fN, l0, 0⟩] false 1 0 0 false)) : Calls Try.prog 12 #[.pointer (some ⟨g, 0, none⟩), .string ⟨#[103]⟩, .slice A0 l0.length c0] W fun e W' => ∃ S', e = .returned (.int .i64 0) ∧ St w S' W' g (BD [⟨fN, l0, 0⟩, ⟨gN, l0, 0⟩] false 2 0 0 false) := by
  refine (Append_S (s := gN) h (cup1 hl hb) (by decide) (Row.arg hC h) (by omega) hb (cu2 l0 hl)).mono ?_
  rintro e W' ⟨S', he, h2, _⟩
  exact ⟨S', he, h2⟩
theorem cc3 (hl : l0.length ≤ 4096) (hb : ∀ x ∈ l0, 0 ≤ x ∧ x ≤ 255) (h : St w S W g (BD [⟨fN, l0, 0⟩, ⟨gN, l0, 0⟩] false 2 0 0 false)) : Calls Try.prog 15 #[.pointer (some ⟨g, 0, none⟩), .string ⟨#[102]⟩] W fun e W' => ∃ S', e = .returned (.int .i64 0) ∧ St w S' W' g (BD [⟨fN, l0, l0.length⟩, ⟨gN, l0, 0⟩] false 3 0 0 false) := by
  refine (Sync_S (s := fN) h (cup2 hl hb) (by decide) (cu3 l0)).mono ?_
  rintro e W' ⟨S', he, h2, _⟩
  exact ⟨S', he, h2⟩
theorem cc4 (hn : 0 ≤ n) (hu : (BD [⟨fN, l0, s⟩, ⟨gN, l0, 0⟩] false a 0 0 false).Up 3) (h : St w S W g (BD [⟨fN, l0, s⟩, ⟨gN, l0, 0⟩] false a 0 0 false)) : Calls Try.prog 19 #[.pointer (some ⟨g, 0, none⟩), .string ⟨#[102]⟩, .int .i64 n] W fun e W' => ∃ S', e = .returned (.int .i64 0) ∧ St w S' W' g (BD [cuF l0 n s, ⟨gN, l0, 0⟩] false (a + 1) 0 0 false) := by
  refine (Cut_S (s := fN) h hu (by decide) (cu4 l0 n s a hn)).mono ?_
  rintro e W' ⟨S', he, h2, _⟩
  exact ⟨S', he, h2⟩
theorem cc5 (hn : 0 ≤ n) (hu : (BD [⟨fN, l0, s⟩, ⟨gN, l0, 0⟩] false a 0 0 false).Up 3) (h : St w S W g (BD [cuF l0 n s, ⟨gN, l0, 0⟩] false (a + 1) 0 0 false)) : Calls Try.prog 20 #[.pointer (some ⟨g, 0, none⟩), .string ⟨#[103]⟩] W fun e W' => ∃ S', e = .returned (.int .i64 0) ∧ St w S' W' g (BD [cuF l0 n s] false (a + 1 + 1) 0 0 false) := by
  refine (Remove_S (s := gN) h (cup4 hn hu) (by decide) (cu5 l0 n s a)).mono ?_
  rintro e W' ⟨S', he, h2, _⟩
  exact ⟨S', he, h2⟩
theorem cc6 (hn : 0 ≤ n) (hu : (BD [⟨fN, l0, s⟩, ⟨gN, l0, 0⟩] false a 0 0 false).Up 3) (h : St w S W g (BD [cuF l0 n s] false (a + 1 + 1) 0 0 false)) : Calls Try.prog 16 #[.pointer (some ⟨g, 0, none⟩), .int .i64 keep, .bool false] W fun e W' => ∃ S', e = .returned (.tuple #[]) ∧ St w S' W' g (BD [cuL l0 n keep s] true (a + 1 + 1) 0 0 false) := by
  refine (Off_S h (cup5 hn hu) (cu6 l0 n keep s a)).mono ?_
  rintro e W' ⟨S', he, h2, _⟩
  exact ⟨S', he, h2⟩
theorem cc7  (h : St w S W g (BD [cuL l0 n keep s] true (a + 1 + 1) 0 0 false)) : Calls Try.prog 17 #[.pointer (some ⟨g, 0, none⟩)] W fun e W' => ∃ S', e = .returned (.tuple #[]) ∧ St w S' W' g (BD [cuL l0 n keep s] false (a + 1 + 1) 0 0 false) := by
  refine (On_S h (d' := BD [cuL l0 n keep s] false (a + 1 + 1) 0 0 false) rfl).mono ?_
  rintro e W' ⟨S', he, h2, _⟩
  exact ⟨S', he, h2⟩
theorem cc8 (hn : 0 ≤ n) (hu : (BD [⟨fN, l0, s⟩, ⟨gN, l0, 0⟩] false a 0 0 false).Up 3) {ys : List Int} (hy : loseB keep false (cuF l0 n s) = ys) (h : St w S W g (BD [cuL l0 n keep s] false (a + 1 + 1) 0 0 false)) : Calls Try.prog 13 #[.pointer (some ⟨g, 0, none⟩), .string ⟨#[102]⟩] W fun e W' => ∃ A c, e = .returned (.tuple #[.slice A ys.length c, .int .i64 0]) ∧ bK.C W' A ys.length ys ∧ St w S W' g (BD [cuL l0 n keep s] false (a + 1 + 1) 0 0 false) ∧ Below W.heap.size W W' := by
  subst hy
  refine (Read_S (s := fN) h (cup6 hn hu) (cu8 l0 n keep s a)).mono ?_
  rintro e W' ⟨A, m, c, he, hm, hr, hs, hb, hcv⟩
  subst hm
  exact ⟨A, c, he, (Kd.R_reads' hr).2.2, hs, hb⟩
theorem cc9 (hn : 0 ≤ n) (hu : (BD [⟨fN, l0, s⟩, ⟨gN, l0, 0⟩] false a 0 0 false).Up 3) (h : St w S W g (BD [cuL l0 n keep s] false (a + 1 + 1) 0 0 false)) : Calls Try.prog 13 #[.pointer (some ⟨g, 0, none⟩), .string ⟨#[103]⟩] W fun e W' => ∃ A m c, e = .returned (.tuple #[.slice A m c, .int .i64 5]) ∧ St w S W' g (BD [cuL l0 n keep s] false (a + 1 + 1) 0 0 false) ∧ Below W.heap.size W W' := by
  refine (Read_S (s := gN) h (cup6 hn hu) (cu9 l0 n keep s a)).mono ?_
  rintro e W' ⟨A, m, c, he, hm, hr, hs, hb, hcv⟩
  exact ⟨A, m, c, he, hs, hb⟩
set_option maxHeartbeats 4000000 in
set_option maxRecDepth 100000 in
theorem cut_l (w : World) (b : Bool) (h : 4096 < l0.length) : Calls Try.prog 6 #[.slice A0 l0.length c0, .int .i64 n, .bool b, .int .i64 keep] w fun e w' => e = .returned (.bool true) ∧ Below w.heap.size w w' := by
  have c1b : decide ((4096 : Int) < (l0.length : Int)) = true := decide_eq_true (by omega)
  clear h
  obtain ⟨m0, hm0⟩ : ∃ m, m = l0.length := ⟨_, rfl⟩
  rw [← hm0] at c1b ⊢
  clear hm0
  go_enter Try.func6, Try.ntmps6
  go_wp2_with (first | (go_at_call 10; refine (alive_Q w).mono ?_; rintro e w1 ⟨rfl, hb⟩))
  go_ret
  exact ⟨rfl, hb⟩
set_option maxHeartbeats 4000000 in
set_option maxRecDepth 100000 in
theorem cut_n (w : World) (b : Bool) (h1 : l0.length ≤ 4096) (h : n < 0) : Calls Try.prog 6 #[.slice A0 l0.length c0, .int .i64 n, .bool b, .int .i64 keep] w fun e w' => e = .returned (.bool true) ∧ Below w.heap.size w w' := by
  have c1b : decide ((4096 : Int) < (l0.length : Int)) = false := decide_eq_false (by omega)
  have c2b : decide (n < 0) = true := decide_eq_true h
  clear h h1
  obtain ⟨m0, hm0⟩ : ∃ m, m = l0.length := ⟨_, rfl⟩
  rw [← hm0] at c1b ⊢
  clear hm0
  go_enter Try.func6, Try.ntmps6
  go_wp2_with (first | (go_at_call 10; refine (alive_Q w).mono ?_; rintro e w1 ⟨rfl, hb⟩))
  go_ret
  exact ⟨rfl, hb⟩
set_option maxHeartbeats 4000000 in
set_option maxRecDepth 100000 in
theorem cut_m (w : World) (b : Bool) (h1 : l0.length ≤ 4096) (h2 : 0 ≤ n) (h : (l0.length : Int) < n) : Calls Try.prog 6 #[.slice A0 l0.length c0, .int .i64 n, .bool b, .int .i64 keep] w fun e w' => e = .returned (.bool true) ∧ Below w.heap.size w w' := by
  have c1b : decide ((4096 : Int) < (l0.length : Int)) = false := decide_eq_false (by omega)
  have c2b : decide (n < 0) = false := decide_eq_false (by omega)
  have c3b : decide ((l0.length : Int) < n) = true := decide_eq_true h
  clear h h1 h2
  obtain ⟨m0, hm0⟩ : ∃ m, m = l0.length := ⟨_, rfl⟩
  rw [← hm0] at c1b c3b ⊢
  clear hm0
  go_enter Try.func6, Try.ntmps6
  go_wp2_with (first | (go_at_call 10; refine (alive_Q w).mono ?_; rintro e w1 ⟨rfl, hb⟩))
  go_ret
  exact ⟨rfl, hb⟩
set_option maxHeartbeats 4000000 in
set_option maxRecDepth 100000 in
theorem cut_s (hl : l0.length ≤ 4096) (hb : ∀ x ∈ l0, 0 ≤ x ∧ x ≤ 255) (hn : 0 ≤ n) (hn2 : n ≤ (l0.length : Int))  (hC0 : bK.C w A0 l0.length l0) (hcc : l0.length ≤ c0) : Calls Try.prog 6 #[.slice A0 l0.length c0, .int .i64 n, .bool true, .int .i64 keep] w fun e w' => e = .returned (.bool true) ∧ Below w.heap.size w w' := by
  have c1b : decide ((4096 : Int) < (l0.length : Int)) = false := decide_eq_false (by omega)
  have c2b : decide (n < 0) = false := decide_eq_false (by omega)
  have c3b : decide ((l0.length : Int) < n) = false := decide_eq_false (by omega)
  have hw0 : 0 ≤ (n : Int) ∧ (n : Int) ≤ (l0.length : Int) := ⟨by omega, by omega⟩
  have hwant : loseB keep false (cuF l0 n l0.length) = l0.take (n : Int).toNat := cu_want l0 n keep l0.length hn hn2 n (by split <;> omega) (by first | exact .inl rfl | exact .inr rfl) (fun _ => .inr trivial)
  have hlen : ((l0.take (n : Int).toNat).length : Int) = n := by rw [List.length_take]; omega
  have HL := Aside0.mk hl
  have HB := Aside0.mk hb
  have HN := Aside0.mk hn
  have HC0 := Aside0.mk hC0
  have HW := Aside0.mk hwant
  obtain ⟨i0, hi0, _, hsz, _⟩ := info_parts infoB
  have hcut := cut_to (P := Try.prog) 22 5 .i64 Try.underlying22 hi0 A0 l0.length c0 n hw0.1 hw0.2 hcc
  have HCt := Aside0.mk (show bK.C w A0 (n : Int).toNat (l0.take (n : Int).toNat) from by
    have h1 := Kd.C_take (m := (n : Int).toNat) hC0 (by omega)
    rw [show (l0.take (n : Int).toNat).length = (n : Int).toNat by rw [List.length_take]; omega] at h1
    exact h1)
  obtain ⟨X, hX⟩ : ∃ X, X = l0.take (n : Int).toNat := ⟨_, rfl⟩
  rw [← hX] at hlen HW HCt
  have HXL := Aside0.mk hlen
  obtain ⟨mx, hmx⟩ : ∃ m, m = X.length := ⟨_, rfl⟩
  have HMX := Aside0.mk hmx
  rw [← hmx] at hlen
  obtain ⟨m0, hm0⟩ : ∃ m, m = l0.length := ⟨_, rfl⟩
  have HM0 := Aside0.mk hm0
  rw [← hm0] at c1b c3b hcut ⊢
  clear hl hb hn hn2 hC0 hcc hwant hw0 hm0 hX hmx hi0 hsz
  go_enter Try.func6, Try.ntmps6
  go_wp2_with (first
    | (go_at_call 10; refine (alive_Q w).mono ?_; rintro e w1 ⟨rfl, hb⟩; have HA := Aside0.mk hb; clear hb)
    | (go_at_call 11; refine (New_S' w w1 HA.out 1048576).mono ?_; rintro e w2 ⟨g, S0, rfl, hs, _, _⟩; have H0 := Aside0.mk hs; clear hs HA)
    | (go_at_call 12; have hq := cc1 (c0 := c0) HL.out HB.out HC0.out H0.out; rw [← HM0.out] at hq; refine hq.mono ?_; clear hq; rintro e w3 ⟨S1, rfl, hs⟩; have H1 := Aside0.mk hs; clear hs H0)
    | (go_at_call 12; have hq := cc2 (c0 := c0) HL.out HB.out HC0.out H1.out; rw [← HM0.out] at hq; refine hq.mono ?_; clear hq; rintro e w4 ⟨S2, rfl, hs⟩; have H2 := Aside0.mk hs; clear hs H1)
    | (go_at_call 15; refine (cc3 HL.out HB.out H2.out).mono ?_; rintro e w5 ⟨S3, rfl, hs⟩; have H3 := Aside0.mk hs; clear hs H2)
    | (go_at_call 19; refine (cc4 HN.out (cup3 HL.out HB.out) H3.out).mono ?_; rintro e w6 ⟨S4, rfl, hs⟩; have H4 := Aside0.mk hs; clear hs H3)
    | (go_at_call 20; refine (cc5 HN.out (cup3 HL.out HB.out) H4.out).mono ?_; rintro e w7 ⟨S5, rfl, hs⟩; have H5 := Aside0.mk hs; clear hs H4)
    | (go_at_call 16; refine (cc6 HN.out (cup3 HL.out HB.out) H5.out).mono ?_; rintro e w8 ⟨S6, rfl, hs⟩; have H6 := Aside0.mk hs; clear hs H5)
    | (go_at_call 17; refine (cc7 H6.out).mono ?_; rintro e w9 ⟨S7, rfl, hs⟩; have H7 := Aside0.mk hs; clear hs H6)
    | (go_at_call 13; have hq := cc8 HN.out (cup3 HL.out HB.out) HW.out H7.out; rw [← HMX.out] at hq; refine hq.mono ?_; clear hq; rintro e w11 ⟨X1, q1, rfl, hx1, hs, _⟩; have H8 := Aside0.mk hs; have HX1 := Aside0.mk hx1; clear hs H7 hx1)
    | (go_at_call 13; refine (cc9 HN.out (cup3 HL.out HB.out) H8.out).mono ?_; rintro e w12 ⟨X2, n2, q2, rfl, hs, hb12⟩; have H9 := Aside0.mk hs; have v1 := str_C (c := q1) (show bK.C w12.drew X1 mx X from C_below HX1.out (below_drew1 hb12)); have v2 := str_C (c := c0) (show bK.C w12.drew A0 (n : Int).toNat X from C_below HCt.out (below_drew1 hs.bel)); clear hs H8 hb12))
  go_region
  go_wp2
  go_ret
  exact ⟨by simp, H9.out.drew.bel⟩
set_option maxHeartbeats 4000000 in
set_option maxRecDepth 100000 in
theorem cut_a (hl : l0.length ≤ 4096) (hb : ∀ x ∈ l0, 0 ≤ x ∧ x ≤ 255) (hn : 0 ≤ n) (hn2 : n ≤ (l0.length : Int)) (hk : n ≤ keep) (hC0 : bK.C w A0 l0.length l0) (hcc : l0.length ≤ c0) : Calls Try.prog 6 #[.slice A0 l0.length c0, .int .i64 n, .bool false, .int .i64 keep] w fun e w' => e = .returned (.bool true) ∧ Below w.heap.size w w' := by
  have c1b : decide ((4096 : Int) < (l0.length : Int)) = false := decide_eq_false (by omega)
  have c2b : decide (n < 0) = false := decide_eq_false (by omega)
  have c3b : decide ((l0.length : Int) < n) = false := decide_eq_false (by omega)
  have k1b : decide (n ≤ keep) = true := decide_eq_true hk
  have k1c : decide (keep < n) = false := decide_eq_false (by omega)
  have hw0 : 0 ≤ (n : Int) ∧ (n : Int) ≤ (l0.length : Int) := ⟨by omega, by omega⟩
  have hwant : loseB keep false (cuF l0 n 0) = l0.take (n : Int).toNat := cu_want l0 n keep 0 hn hn2 n (by split <;> omega) (by first | exact .inl rfl | exact .inr rfl) (fun _ => .inr trivial)
  have hlen : ((l0.take (n : Int).toNat).length : Int) = n := by rw [List.length_take]; omega
  have HL := Aside0.mk hl
  have HB := Aside0.mk hb
  have HN := Aside0.mk hn
  have HC0 := Aside0.mk hC0
  have HW := Aside0.mk hwant
  obtain ⟨i0, hi0, _, hsz, _⟩ := info_parts infoB
  have hcut := cut_to (P := Try.prog) 22 5 .i64 Try.underlying22 hi0 A0 l0.length c0 n hw0.1 hw0.2 hcc
  have HCt := Aside0.mk (show bK.C w A0 (n : Int).toNat (l0.take (n : Int).toNat) from by
    have h1 := Kd.C_take (m := (n : Int).toNat) hC0 (by omega)
    rw [show (l0.take (n : Int).toNat).length = (n : Int).toNat by rw [List.length_take]; omega] at h1
    exact h1)
  obtain ⟨X, hX⟩ : ∃ X, X = l0.take (n : Int).toNat := ⟨_, rfl⟩
  rw [← hX] at hlen HW HCt
  have HXL := Aside0.mk hlen
  obtain ⟨mx, hmx⟩ : ∃ m, m = X.length := ⟨_, rfl⟩
  have HMX := Aside0.mk hmx
  rw [← hmx] at hlen
  obtain ⟨m0, hm0⟩ : ∃ m, m = l0.length := ⟨_, rfl⟩
  have HM0 := Aside0.mk hm0
  rw [← hm0] at c1b c3b hcut ⊢
  clear hl hb hn hn2 hC0 hcc hwant hw0 hm0 hX hmx hi0 hsz hk
  go_enter Try.func6, Try.ntmps6
  go_wp2_with (first
    | (go_at_call 10; refine (alive_Q w).mono ?_; rintro e w1 ⟨rfl, hb⟩; have HA := Aside0.mk hb; clear hb)
    | (go_at_call 11; refine (New_S' w w1 HA.out 1048576).mono ?_; rintro e w2 ⟨g, S0, rfl, hs, _, _⟩; have H0 := Aside0.mk hs; clear hs HA)
    | (go_at_call 12; have hq := cc1 (c0 := c0) HL.out HB.out HC0.out H0.out; rw [← HM0.out] at hq; refine hq.mono ?_; clear hq; rintro e w3 ⟨S1, rfl, hs⟩; have H1 := Aside0.mk hs; clear hs H0)
    | (go_at_call 12; have hq := cc2 (c0 := c0) HL.out HB.out HC0.out H1.out; rw [← HM0.out] at hq; refine hq.mono ?_; clear hq; rintro e w4 ⟨S2, rfl, hs⟩; have H2 := Aside0.mk hs; clear hs H1)
    | (go_at_call 15; refine (cc3 HL.out HB.out H2.out).mono ?_; rintro e w5 ⟨S3, rfl, hs⟩; have H3 := Aside0.mk hs; clear hs H2)
    | (go_at_call 19; refine (cc4 HN.out (cup2 HL.out HB.out) H2.out).mono ?_; rintro e w6 ⟨S4, rfl, hs⟩; have H4 := Aside0.mk hs; clear hs H2)
    | (go_at_call 20; refine (cc5 HN.out (cup2 HL.out HB.out) H4.out).mono ?_; rintro e w7 ⟨S5, rfl, hs⟩; have H5 := Aside0.mk hs; clear hs H4)
    | (go_at_call 16; refine (cc6 HN.out (cup2 HL.out HB.out) H5.out).mono ?_; rintro e w8 ⟨S6, rfl, hs⟩; have H6 := Aside0.mk hs; clear hs H5)
    | (go_at_call 17; refine (cc7 H6.out).mono ?_; rintro e w9 ⟨S7, rfl, hs⟩; have H7 := Aside0.mk hs; clear hs H6)
    | (go_at_call 13; have hq := cc8 HN.out (cup2 HL.out HB.out) HW.out H7.out; rw [← HMX.out] at hq; refine hq.mono ?_; clear hq; rintro e w11 ⟨X1, q1, rfl, hx1, hs, _⟩; have H8 := Aside0.mk hs; have HX1 := Aside0.mk hx1; clear hs H7 hx1)
    | (go_at_call 13; refine (cc9 HN.out (cup2 HL.out HB.out) H8.out).mono ?_; rintro e w12 ⟨X2, n2, q2, rfl, hs, hb12⟩; have H9 := Aside0.mk hs; have v1 := str_C (c := q1) (show bK.C w12.drew X1 mx X from C_below HX1.out (below_drew1 hb12)); have v2 := str_C (c := c0) (show bK.C w12.drew A0 (n : Int).toNat X from C_below HCt.out (below_drew1 hs.bel)); clear hs H8 hb12))
  go_region
  go_wp2
  go_ret
  exact ⟨by simp, H9.out.drew.bel⟩
set_option maxHeartbeats 4000000 in
set_option maxRecDepth 100000 in
theorem cut_b (hl : l0.length ≤ 4096) (hb : ∀ x ∈ l0, 0 ≤ x ∧ x ≤ 255) (hn : 0 ≤ n) (hn2 : n ≤ (l0.length : Int)) (hk : keep < n) (hk2 : 0 < keep) (hC0 : bK.C w A0 l0.length l0) (hcc : l0.length ≤ c0) : Calls Try.prog 6 #[.slice A0 l0.length c0, .int .i64 n, .bool false, .int .i64 keep] w fun e w' => e = .returned (.bool true) ∧ Below w.heap.size w w' := by
  have c1b : decide ((4096 : Int) < (l0.length : Int)) = false := decide_eq_false (by omega)
  have c2b : decide (n < 0) = false := decide_eq_false (by omega)
  have c3b : decide ((l0.length : Int) < n) = false := decide_eq_false (by omega)
  have k1b : decide (n ≤ keep) = false := decide_eq_false (by omega)
  have k2b : decide ((0 : Int) < keep) = true := decide_eq_true hk2
  have hw0 : 0 ≤ (keep : Int) ∧ (keep : Int) ≤ (l0.length : Int) := ⟨by omega, by omega⟩
  have hwant : loseB keep false (cuF l0 n 0) = l0.take (keep : Int).toNat := cu_want l0 n keep 0 hn hn2 keep (by split <;> omega) (by first | exact .inl rfl | exact .inr rfl) (fun _ => .inr trivial)
  have hlen : ((l0.take (keep : Int).toNat).length : Int) = keep := by rw [List.length_take]; omega
  have HL := Aside0.mk hl
  have HB := Aside0.mk hb
  have HN := Aside0.mk hn
  have HC0 := Aside0.mk hC0
  have HW := Aside0.mk hwant
  obtain ⟨i0, hi0, _, hsz, _⟩ := info_parts infoB
  have hcut := cut_to (P := Try.prog) 22 5 .i64 Try.underlying22 hi0 A0 l0.length c0 keep hw0.1 hw0.2 hcc
  have HCt := Aside0.mk (show bK.C w A0 (keep : Int).toNat (l0.take (keep : Int).toNat) from by
    have h1 := Kd.C_take (m := (keep : Int).toNat) hC0 (by omega)
    rw [show (l0.take (keep : Int).toNat).length = (keep : Int).toNat by rw [List.length_take]; omega] at h1
    exact h1)
  obtain ⟨X, hX⟩ : ∃ X, X = l0.take (keep : Int).toNat := ⟨_, rfl⟩
  rw [← hX] at hlen HW HCt
  have HXL := Aside0.mk hlen
  obtain ⟨mx, hmx⟩ : ∃ m, m = X.length := ⟨_, rfl⟩
  have HMX := Aside0.mk hmx
  rw [← hmx] at hlen
  obtain ⟨m0, hm0⟩ : ∃ m, m = l0.length := ⟨_, rfl⟩
  have HM0 := Aside0.mk hm0
  rw [← hm0] at c1b c3b hcut ⊢
  clear hl hb hn hn2 hC0 hcc hwant hw0 hm0 hX hmx hi0 hsz hk hk2
  go_enter Try.func6, Try.ntmps6
  go_wp2_with (first
    | (go_at_call 10; refine (alive_Q w).mono ?_; rintro e w1 ⟨rfl, hb⟩; have HA := Aside0.mk hb; clear hb)
    | (go_at_call 11; refine (New_S' w w1 HA.out 1048576).mono ?_; rintro e w2 ⟨g, S0, rfl, hs, _, _⟩; have H0 := Aside0.mk hs; clear hs HA)
    | (go_at_call 12; have hq := cc1 (c0 := c0) HL.out HB.out HC0.out H0.out; rw [← HM0.out] at hq; refine hq.mono ?_; clear hq; rintro e w3 ⟨S1, rfl, hs⟩; have H1 := Aside0.mk hs; clear hs H0)
    | (go_at_call 12; have hq := cc2 (c0 := c0) HL.out HB.out HC0.out H1.out; rw [← HM0.out] at hq; refine hq.mono ?_; clear hq; rintro e w4 ⟨S2, rfl, hs⟩; have H2 := Aside0.mk hs; clear hs H1)
    | (go_at_call 15; refine (cc3 HL.out HB.out H2.out).mono ?_; rintro e w5 ⟨S3, rfl, hs⟩; have H3 := Aside0.mk hs; clear hs H2)
    | (go_at_call 19; refine (cc4 HN.out (cup2 HL.out HB.out) H2.out).mono ?_; rintro e w6 ⟨S4, rfl, hs⟩; have H4 := Aside0.mk hs; clear hs H2)
    | (go_at_call 20; refine (cc5 HN.out (cup2 HL.out HB.out) H4.out).mono ?_; rintro e w7 ⟨S5, rfl, hs⟩; have H5 := Aside0.mk hs; clear hs H4)
    | (go_at_call 16; refine (cc6 HN.out (cup2 HL.out HB.out) H5.out).mono ?_; rintro e w8 ⟨S6, rfl, hs⟩; have H6 := Aside0.mk hs; clear hs H5)
    | (go_at_call 17; refine (cc7 H6.out).mono ?_; rintro e w9 ⟨S7, rfl, hs⟩; have H7 := Aside0.mk hs; clear hs H6)
    | (go_at_call 13; have hq := cc8 HN.out (cup2 HL.out HB.out) HW.out H7.out; rw [← HMX.out] at hq; refine hq.mono ?_; clear hq; rintro e w11 ⟨X1, q1, rfl, hx1, hs, _⟩; have H8 := Aside0.mk hs; have HX1 := Aside0.mk hx1; clear hs H7 hx1)
    | (go_at_call 13; refine (cc9 HN.out (cup2 HL.out HB.out) H8.out).mono ?_; rintro e w12 ⟨X2, n2, q2, rfl, hs, hb12⟩; have H9 := Aside0.mk hs; have v1 := str_C (c := q1) (show bK.C w12.drew X1 mx X from C_below HX1.out (below_drew1 hb12)); have v2 := str_C (c := c0) (show bK.C w12.drew A0 (keep : Int).toNat X from C_below HCt.out (below_drew1 hs.bel)); clear hs H8 hb12))
  go_region
  go_wp2
  go_ret
  exact ⟨by simp, H9.out.drew.bel⟩
set_option maxHeartbeats 4000000 in
set_option maxRecDepth 100000 in
theorem cut_c (hl : l0.length ≤ 4096) (hb : ∀ x ∈ l0, 0 ≤ x ∧ x ≤ 255) (hn : 0 ≤ n) (hn2 : n ≤ (l0.length : Int)) (hk : keep < n) (hk2 : keep ≤ 0) (hC0 : bK.C w A0 l0.length l0) (hcc : l0.length ≤ c0) : Calls Try.prog 6 #[.slice A0 l0.length c0, .int .i64 n, .bool false, .int .i64 keep] w fun e w' => e = .returned (.bool true) ∧ Below w.heap.size w w' := by
  have c1b : decide ((4096 : Int) < (l0.length : Int)) = false := decide_eq_false (by omega)
  have c2b : decide (n < 0) = false := decide_eq_false (by omega)
  have c3b : decide ((l0.length : Int) < n) = false := decide_eq_false (by omega)
  have k1b : decide (n ≤ keep) = false := decide_eq_false (by omega)
  have k2b : decide ((0 : Int) < keep) = false := decide_eq_false (by omega)
  have hw0 : 0 ≤ (0 : Int) ∧ (0 : Int) ≤ (l0.length : Int) := ⟨by omega, by omega⟩
  have hwant : loseB keep false (cuF l0 n 0) = l0.take (0 : Int).toNat := cu_want l0 n keep 0 hn hn2 0 (by split <;> omega) (by first | exact .inl rfl | exact .inr rfl) (fun _ => .inr trivial)
  have hlen : ((l0.take (0 : Int).toNat).length : Int) = 0 := by rw [List.length_take]; omega
  have HL := Aside0.mk hl
  have HB := Aside0.mk hb
  have HN := Aside0.mk hn
  have HC0 := Aside0.mk hC0
  have HW := Aside0.mk hwant
  obtain ⟨i0, hi0, _, hsz, _⟩ := info_parts infoB
  have hcut := cut_to (P := Try.prog) 22 5 .i64 Try.underlying22 hi0 A0 l0.length c0 0 hw0.1 hw0.2 hcc
  have HCt := Aside0.mk (show bK.C w A0 (0 : Int).toNat (l0.take (0 : Int).toNat) from by
    have h1 := Kd.C_take (m := (0 : Int).toNat) hC0 (by omega)
    rw [show (l0.take (0 : Int).toNat).length = (0 : Int).toNat by rw [List.length_take]; omega] at h1
    exact h1)
  have HW := Aside0.mk (show loseB keep false (cuF l0 n 0) = [] from HW.out)
  have HCt := Aside0.mk (show bK.C w A0 0 [] from HCt.out)
  have hcut : ∀ W, (Instr.slice 22 (.slice A0 l0.length c0) none (some (.int .i64 0)) none).run Try.prog W = .ok (.slice A0 0 c0) W := hcut
  clear hlen
  obtain ⟨m0, hm0⟩ : ∃ m, m = l0.length := ⟨_, rfl⟩
  have HM0 := Aside0.mk hm0
  rw [← hm0] at c1b c3b hcut ⊢
  clear hl hb hn hn2 hC0 hcc hwant hw0 hm0  hi0 hsz hk hk2
  go_enter Try.func6, Try.ntmps6
  go_wp2_with (first
    | (go_at_call 10; refine (alive_Q w).mono ?_; rintro e w1 ⟨rfl, hb⟩; have HA := Aside0.mk hb; clear hb)
    | (go_at_call 11; refine (New_S' w w1 HA.out 1048576).mono ?_; rintro e w2 ⟨g, S0, rfl, hs, _, _⟩; have H0 := Aside0.mk hs; clear hs HA)
    | (go_at_call 12; have hq := cc1 (c0 := c0) HL.out HB.out HC0.out H0.out; rw [← HM0.out] at hq; refine hq.mono ?_; clear hq; rintro e w3 ⟨S1, rfl, hs⟩; have H1 := Aside0.mk hs; clear hs H0)
    | (go_at_call 12; have hq := cc2 (c0 := c0) HL.out HB.out HC0.out H1.out; rw [← HM0.out] at hq; refine hq.mono ?_; clear hq; rintro e w4 ⟨S2, rfl, hs⟩; have H2 := Aside0.mk hs; clear hs H1)
    | (go_at_call 15; refine (cc3 HL.out HB.out H2.out).mono ?_; rintro e w5 ⟨S3, rfl, hs⟩; have H3 := Aside0.mk hs; clear hs H2)
    | (go_at_call 19; refine (cc4 HN.out (cup2 HL.out HB.out) H2.out).mono ?_; rintro e w6 ⟨S4, rfl, hs⟩; have H4 := Aside0.mk hs; clear hs H2)
    | (go_at_call 20; refine (cc5 HN.out (cup2 HL.out HB.out) H4.out).mono ?_; rintro e w7 ⟨S5, rfl, hs⟩; have H5 := Aside0.mk hs; clear hs H4)
    | (go_at_call 16; refine (cc6 HN.out (cup2 HL.out HB.out) H5.out).mono ?_; rintro e w8 ⟨S6, rfl, hs⟩; have H6 := Aside0.mk hs; clear hs H5)
    | (go_at_call 17; refine (cc7 H6.out).mono ?_; rintro e w9 ⟨S7, rfl, hs⟩; have H7 := Aside0.mk hs; clear hs H6)
    | (go_at_call 13; have hq := cc8 HN.out (cup2 HL.out HB.out) HW.out H7.out; rw [List.length_nil] at hq; refine hq.mono ?_; clear hq; rintro e w11 ⟨X1, q1, rfl, hx1, hs, _⟩; have H8 := Aside0.mk hs; have HX1 := Aside0.mk hx1; clear hs H7 hx1)
    | (go_at_call 13; refine (cc9 HN.out (cup2 HL.out HB.out) H8.out).mono ?_; rintro e w12 ⟨X2, n2, q2, rfl, hs, hb12⟩; have H9 := Aside0.mk hs; have v1 := str_C (c := q1) (show bK.C w12.drew X1 0 [] from C_below HX1.out (below_drew1 hb12)); have v2 := str_C (c := c0) (show bK.C w12.drew A0 0 [] from C_below HCt.out (below_drew1 hs.bel)); clear hs H8 hb12))
  go_region
  go_wp2
  go_ret
  exact ⟨by simp, H9.out.drew.bel⟩
end
theorem Cuts_Q (A0 : Option Addr) (c0 : Nat) (l0 : List Int) (n : Int) (sync : Bool) (keep : Int) (w : World) (hC0 : bK.C w A0 l0.length l0) (hb0 : ∀ x ∈ l0, 0 ≤ x ∧ x ≤ 255) (hcc : l0.length ≤ c0) :
    Calls Try.prog 6 #[.slice A0 l0.length c0, .int .i64 n, .bool sync, .int .i64 keep] w fun e w' => e = .returned (.bool true) ∧ Below w.heap.size w w' := by
  by_cases h : 4096 < l0.length
  · exact cut_l w sync h
  by_cases h1 : n < 0
  · exact cut_n w sync (by omega) h1
  by_cases h2 : (l0.length : Int) < n
  · exact cut_m w sync (by omega) (by omega) h2
  cases sync with
  | true => exact cut_s (by omega) hb0 (by omega) (by omega) hC0 hcc
  | false =>
    by_cases hk : n ≤ keep
    · exact cut_a (by omega) hb0 (by omega) (by omega) hk hC0 hcc
    · by_cases hk2 : 0 < keep
      · exact cut_b (by omega) hb0 (by omega) (by omega) (by omega) hk2 hC0 hcc
      · exact cut_c (by omega) hb0 (by omega) (by omega) (by omega) (by omega) hC0 hcc
theorem cuts_walk (a0 : Option Addr) (len0 cap0 : Nat) (z0 : List Int) (a1 : Int) (a2 : Bool) (a3 : Int) (w : World) (w0 : (a0 = none ∧ len0 = 0 ∧ cap0 = 0 ∧ z0 = []) ∨ ∃ x, a0 = some x ∧ len0 ≤ cap0 ∧ cap0 ≤ maxLen ∧ z0.length = cap0 ∧ (∀ i, i < z0.length → w.cell? (x.add i) = some (.int .u8 (z0.getD i 0))) ∧ ∀ n ∈ z0, (Lit.int .u8 n).wf = true) (y0 : len0 * 1 ≤ 140737488351232) (w1 : (Lit.int .i64 a1).wf = true) (w3 : (Lit.int .i64 a3).wf = true) :
    Calls Try.prog 6 #[.slice a0 len0 cap0, .int .i64 a1, .bool a2, .int .i64 a3] w fun e w' => e = .returned (.bool true) ∧ Below w.heap.size w w' := by
  obtain ⟨l0, rfl, hr0, hm0, hw0, hc0⟩ := ReadsInt.ofRowC w0
  exact Cuts_Q a0 cap0 l0 a1 a2 a3 w (Kd.C_of_reads (d := (0 : Int)) (h1 := fun _ => rfl) hr0) (byt_le hw0) hc0
end Go.Proofs.Ytoedkemjidgbeaa.Dk
/- DiskKeeps. -/
namespace Go.Proofs.Ytoedkemjidgbeaa.Dk
open Go Go.RowKit Go.Proofs.YtoedkemjidgbeaaW.PrintWords Go.Proofs.YtoedkemjidgbeaaW.PrintLast Go.Proofs.YtoedkemjidgbeaaW.PrintMore Go.Proofs.YtoedkemjidgbeaaMy Go.Proofs.Ytoedkemjidgbeaa Go.Proofs.YtoedkemjidgbeaaPw Go.Proofs.Ytoedkemjidgbeaa.PAll
attribute [local go_sem] max2_m min2_m max_two min_two
set_option linter.unusedVariables false
set_option linter.unusedSimpArgs false
section
variable {w0 w W W' : World} {S S' : Nat → Prop} {g : Nat} {d d' : DS}
theorem St.put (h : St w0 S W g d) {q j : Nat} (hq : w0.heap.size ≤ q) (hS : ¬ S q) (u : Value) : St w0 S (W.setCell ⟨q, j, none⟩ u) g d := by
  have hk : ∀ k, k ≠ q → (W.setCell ⟨q, j, none⟩ u).heap[k]? = W.heap[k]? := fun k hk => Below.heap_setCell W ⟨q, j, none⟩ u k hk
  have hs : (W.setCell ⟨q, j, none⟩ u).heap.size = W.heap.size := by simp [World.setCell]
  exact ⟨h.dev.move (by rw [hs]; exact Nat.le_refl _) (fun k hkS => hk k (fun e => hS (e ▸ hkS))), ⟨h.bel.os, h.bel.tape, h.bel.output, by rw [hs]; exact h.bel.size, fun k hlt => (hk k (by omega)).trans (h.bel.block k hlt)⟩⟩
theorem step_wrap {k m : Nat} (h : k < m) (hm : m ≤ 4096) : wrap64 ((k : Int) + 1) = ((k + 1 : Nat) : Int) := by
  have h1 : (k : Int) < 4096 := Int.ofNat_lt.2 (Nat.lt_of_lt_of_le h hm)
  rw [w64 (by omega) (by omega)]
  rfl
theorem step_val {k m : Nat} (h : k < m) (hm : m ≤ 4096) : Value.int .i64 (wrap64 ((k : Int) + 1)) = .int .i64 ((k + 1 : Nat) : Int) := by rw [step_wrap h hm]
theorem step_meas {k m : Nat} (h : k < m) (hm : m ≤ 4096) : m - (intOf (.int .i64 (wrap64 ((k : Int) + 1)))).toNat < m - (intOf (.int .i64 (k : Int))).toNat := by
  rw [step_wrap h hm]
  show m - (((k + 1 : Nat) : Int)).toNat < m - ((k : Int)).toNat
  rw [Int.toNat_natCast, Int.toNat_natCast]
  exact Nat.sub_lt_sub_left h (Nat.lt_succ_self k)
/-- A row of the walk's own, beside the device. -/
structure Mine (w0 : World) (S : Nat → Prop) (W : World) (v : Value) (n : Nat) : Prop where
  row : ∃ xs, bK.R 5 W w0.heap.size (fun k => ¬ S k) v xs ∧ xs.length = n
theorem Mine.cell {A : Option Addr} {m c : Nat} (h : Mine w0 S W (.slice A m c) m) {i : Nat} (hi : i < m) : ∃ q x, A = some ⟨q, 0, none⟩ ∧ w0.heap.size ≤ q ∧ ¬ S q ∧ W.cell? ⟨q, i, none⟩ = some (.int .u8 x) ∧ W.frozen? ⟨q, i, none⟩ = false ∧ ∀ y, Mine w0 S (W.setCell ⟨q, i, none⟩ (.int .u8 y)) (.slice A m c) m := by
  obtain ⟨xs, hr, hl⟩ := h.row
  rcases R_shape hr with ⟨e1, e2⟩ | ⟨q, cap, e1, hb, hc⟩
  · subst e2
    simp only [List.length_nil] at hl
    omega
  · injection e1 with e1 e3 e4
    subst e1
    have hcell := Kd.R_celln (0 : Int) hr (i : Int) (by omega) (by omega)
    rw [Int.toNat_natCast] at hcell
    refine ⟨q, _, rfl, hb, hr.1 q rfl, hcell.1, hcell.2, fun y => ⟨xs.set i y, ?_, ?_⟩⟩
    · have h4 := (Kd.R_putg hr (i : Int) y).1
      rw [Int.toNat_natCast] at h4
      exact h4
    · rw [List.length_set]; exact hl
theorem Mine.of {w2 w3 w4 : World} {S1 : Nat → Prop} {v : Value} {xs : List Int} {ok : Nat → Prop} (ho : bK.R 5 w2 w0.heap.size ok v xs) (hlo : ∀ k, S k → w2.heap.size ≤ k) (hb : Below w2.heap.size w2 w3) (hst : Step S w3 S1 w4) {n : Nat} (hn : xs.length = n) : Mine w0 S1 w4 v n := by
  have hlt := Kd.R_lt ho
  have h3 : bK.R 5 w3 w0.heap.size ok v xs := R_moved ho (fun k hk => hb.block k (hlt k hk))
  have h4 : bK.R 5 w4 w0.heap.size ok v xs := R_moved h3 (fun k hk => hst.only.block k (Nat.lt_of_lt_of_le (hlt k hk) hb.size) (fun hS => by have h1 := hlo k hS; have h2 := hlt k hk; omega))
  refine ⟨xs, Kd.R_of_own (Kd.own_of_R h4) (fun k hk hS => ?_), hn⟩
  have h1 := hlt k hk
  have h2 := hb.size
  rcases hst.sub k hS with h5 | h5
  · have := hlo k h5
    omega
  · omega
end
section
variable {w W : World} {S : Nat → Prop} {g : Nat} {A0 : Option Addr} {c0 : Nat} {l0 : List Int}
set_option maxHeartbeats 4000000 in
set_option maxRecDepth 100000 in
theorem keep_l (w : World) (h : 4096 < l0.length) : Calls Try.prog 3 #[.slice A0 l0.length c0] w fun e w' => e = .returned (.bool true) ∧ Below w.heap.size w w' := by
  have c1b : decide ((4096 : Int) < (l0.length : Int)) = true := decide_eq_true (by omega)
  clear h
  obtain ⟨m0, hm0⟩ : ∃ m, m = l0.length := ⟨_, rfl⟩
  rw [← hm0] at c1b ⊢
  clear hm0
  go_enter Try.func3, Try.ntmps3
  go_wp2_with (first | (go_at_call 10; refine (alive_Q w).mono ?_; rintro e w1 ⟨rfl, hb⟩))
  go_ret
  exact ⟨rfl, hb⟩
theorem kp1 (hl : l0.length ≤ 4096) (hb : ∀ x ∈ l0, 0 ≤ x ∧ x ≤ 255) (h : St w S W g (new 1048576)) {A : Option Addr} {c : Nat} (hx : Row S W A l0.length l0) : Calls Try.prog 12 #[.pointer (some ⟨g, 0, none⟩), .string ⟨#[102]⟩, .slice A l0.length c] W fun e W' => ∃ S', e = .returned (.int .i64 0) ∧ St w S' W' g (BD [⟨fN, l0, 0⟩] false 1 0 0 false) ∧ Step S W S' W' :=
  Append_S (s := fN) h (DS.Up.new 1048576) (by decide) hx (by omega) hb (cu1 l0 hl)
theorem kp2 (hl : l0.length ≤ 4096) (hb : ∀ x ∈ l0, 0 ≤ x ∧ x ≤ 255) (h : St w S W g (BD [⟨fN, l0, 0⟩] false 1 0 0 false)) : Calls Try.prog 13 #[.pointer (some ⟨g, 0, none⟩), .string ⟨#[102]⟩] W fun e W' => ∃ A c, e = .returned (.tuple #[.slice A l0.length c, .int .i64 0]) ∧ bK.C W' A l0.length l0 ∧ Mine w S W' (.slice A l0.length c) l0.length ∧ St w S W' g (BD [⟨fN, l0, 0⟩] false 1 0 0 false) ∧ Below W.heap.size W W' := by
  refine (Read_S (s := fN) h (cup1 hl hb) (cu8' 1 l0 0)).mono ?_
  rintro e W' ⟨A, m, c, he, hm, hr, hs, hb, hcv⟩
  subst hm
  refine ⟨A, c, he, (Kd.R_reads' hr).2.2, ⟨l0, ?_, rfl⟩, hs, hb⟩
  have hb2 := Kd.R_base2 hr
  have hge : ∀ k, (Value.slice A l0.length c).ownBlock = some k → W.heap.size ≤ k := fun k hk => by
    rcases hb2 with h0 | ⟨k2, h3, h4⟩
    · rw [hk] at h0; cases h0
    · rw [hk] at h3; cases h3; exact h4
  exact Kd.R_of_own (own_less (Kd.own_of_R hr) h.bel.size) (fun k hk hS => by have h1 := hge k hk; have h2 := h.dev.hi k hS; omega)
set_option maxHeartbeats 4000000 in
set_option maxRecDepth 100000 in
theorem keep_a (hl : l0.length ≤ 4096) (hb : ∀ x ∈ l0, 0 ≤ x ∧ x ≤ 255) (hC0 : bK.C w A0 l0.length l0) : Calls Try.prog 3 #[.slice A0 l0.length c0] w fun e w' => e = .returned (.bool true) ∧ Below w.heap.size w w' := by
  have c1b : decide ((4096 : Int) < (l0.length : Int)) = false := decide_eq_false (by omega)
  have HL := Aside0.mk hl
  have HB := Aside0.mk hb
  have HC0 := Aside0.mk hC0
  obtain ⟨m0, hm0⟩ : ∃ m, m = l0.length := ⟨_, rfl⟩
  have HM0 := Aside0.mk hm0
  have HM4 := Aside0.mk (show m0 ≤ 4096 from by rw [hm0]; exact hl)
  rw [← hm0] at c1b ⊢
  clear hl hb hC0 hm0
  go_enter Try.func3, Try.ntmps3
  go_wp2_with (first
    | (go_at_call 10; refine (alive_Q w).mono ?_; rintro e w1 ⟨rfl, hb⟩; have HA := Aside0.mk hb; clear hb)
    | ((with_reducible refine gate_builtin (b := .append) (xs := #[.tmp 16, .tmp 17]) rfl ?_); (try (refine gate_guard (by rfl) ?_; dsimp only)); at_builtin; refine Kd.R_append_row (Value.int .u8) 0 (w0 := w) w.heap.size rfl (.tmp 16) (.tmp 17) 22 5 (.int .u8 0) 1 rfl Try.underlying22 info5_ rfl (by decide) (.slice (some ⟨w1.heap.size, 0, none⟩) 0 0) [] l0 A0 m0 c0 (fun _ => True) rfl rfl (fun _ _ => trivial) (Kd.R_of_own (own_less (World.ownsRow_lit w1 #[] 0 (Nat.le_refl _) (by decide) rfl) HA.out.size) (fun _ _ => trivial)) (by rw [HM0.out]; exact C_below HC0.out (below_alloc HA.out _)) (below_alloc HA.out _) ?aS ?aL ?_; (case aS => exact (below_alloc HA.out _).size); (case aL => have := HL.out; have := HM0.out; simp only [List.length_nil]; omega); intro v1 w2 ho hb hg hat; have ho2 : bK.R 5 w2 w.heap.size (fun _ => True) v1 l0 := ho; obtain ⟨A1, c1, ev1⟩ := Kd.R_slice ho2; subst ev1; have HC1 := Aside0.mk (Kd.R_reads' ho2).2.2; have HO := Aside0.mk ho2; rw [← HM0.out] at HC1 HO; have HB2 := Aside0.mk hb; rw [← HM0.out]; clear ho ho2 hb hg hat HA)
    | (go_at_call 11; refine (New_S' w w2 HB2.out 1048576).mono ?_; rintro e w3 ⟨g, S0, rfl, hs, hlo, hb3⟩; have H0 := Aside0.mk hs; have HLo := Aside0.mk hlo; have HB3 := Aside0.mk hb3; clear hs hlo hb3)
    | (go_at_call 12; have hrow : Row S0 w3 A1 m0 l0 := Row.below (Row.came HC1.out HLo.out) HB3.out; have hq := kp1 (c := c1) HL.out HB.out H0.out (by rw [← HM0.out]; exact hrow); rw [← HM0.out] at hq; refine hq.mono ?_; clear hq; rintro e w4 ⟨S1, rfl, hs, hst⟩; have v0 := str_C (c := c0) (C_below HC0.out hs.bel); have v1 := str_C (c := c1) (Kd.F_now (hrow.step hst)); rw [← HM0.out] at v0; have H1 := Aside0.mk hs; have HM1 := Aside0.mk (Mine.of HO.out HLo.out HB3.out hst HM0.out.symm); clear hs hst hrow H0 HLo HB3 HO HC1))
  try go_frame
  go_loopw [30] (fun i wr => ∃ k : Nat, k ≤ m0 ∧ i = .int .i64 (k : Int) ∧ Aside0 (Mine w S1 wr (.slice A1 m0 c1) m0) ∧ Aside0 (St w S1 wr g (BD [⟨fN, l0, 0⟩] false 1 0 0 false))) (fun i _ => m0 - (intOf i).toNat)
  case atStart => exact ⟨0, Nat.zero_le _, rfl, HM1, H1⟩
  case round =>
    obtain ⟨k, hk, rfl, HMk, HSk⟩ := hrel
    by_cases hlt : k < m0
    · obtain ⟨q, x, rfl, hq, hnS, zc, zf, hput⟩ := HMk.out.cell hlt
      have kb : decide ((k : Int) < (m0 : Int)) = true := decide_eq_true (Int.ofNat_lt.2 hlt)
      have HPut := Aside0.mk hput
      have HQ := Aside0.mk hq
      have HNS := Aside0.mk hnS
      clear hput hq hnS
      go_wp2
      go_roundw
      case rel => exact ⟨k + 1, hlt, step_val hlt HM4.out, ⟨HPut.out _⟩, ⟨HSk.out.put HQ.out HNS.out _⟩⟩
      case measure => exact step_meas hlt HM4.out
    · have ek : k = m0 := Nat.le_antisymm hk (Nat.le_of_not_lt hlt)
      subst ek
      have HR0 := HSk
      clear HMk HM1 H1
      go_wp2_with (first
        | (go_at_call 13; have hq := kp2 HL.out HB.out HR0.out; rw [← HM0.out] at hq; refine hq.mono ?_; clear hq; rintro e w5 ⟨A2, c2, rfl, _, hmi, hs, _⟩; have H2 := Aside0.mk hs; have HM2 := Aside0.mk hmi; clear hs hmi HR0 HSk))
      go_loopw [47] (fun i wr => ∃ j : Nat, j ≤ k ∧ i = .int .i64 (j : Int) ∧ Aside0 (Mine w S1 wr (.slice A2 k c2) k) ∧ Aside0 (St w S1 wr g (BD [⟨fN, l0, 0⟩] false 1 0 0 false))) (fun i _ => k - (intOf i).toNat)
      case atStart => exact ⟨0, Nat.zero_le _, rfl, HM2, H2⟩
      case round =>
        obtain ⟨j, hj, rfl, HMj, HSj⟩ := hrel
        by_cases hlt : j < k
        · obtain ⟨q, x, rfl, hq, hnS, zc, zf, hput⟩ := HMj.out.cell hlt
          have kb : decide ((j : Int) < (k : Int)) = true := decide_eq_true (Int.ofNat_lt.2 hlt)
          have HPut := Aside0.mk hput
          have HQ := Aside0.mk hq
          have HNS := Aside0.mk hnS
          clear hput hq hnS
          go_wp2
          go_roundw
          case rel => exact ⟨j + 1, hlt, step_val hlt HM4.out, ⟨HPut.out _⟩, ⟨HSj.out.put HQ.out HNS.out _⟩⟩
          case measure => exact step_meas hlt HM4.out
        · have ej : j = k := Nat.le_antisymm hj (Nat.le_of_not_lt hlt)
          subst ej
          have HR1 := HSj
          clear HMj HM2 H2
          go_wp2_with (first
            | (go_at_call 13; have hq := kp2 HL.out HB.out HR1.out; rw [← HM0.out] at hq; refine hq.mono ?_; clear hq; rintro e w6 ⟨A3, c3, rfl, hC3, _, hs, _⟩; have v3 := str_C (c := c3) hC3; have v4 := str_C (c := c0) (C_below HC0.out hs.bel); rw [← HM0.out] at v4; have H3 := Aside0.mk hs; clear hs hC3 HR1 HSj))
          go_ret
          exact ⟨by simp, H3.out.bel⟩
theorem keeps_walk (a0 : Option Addr) (len0 cap0 : Nat) (z0 : List Int) (w : World) (w0 : (a0 = none ∧ len0 = 0 ∧ cap0 = 0 ∧ z0 = []) ∨ ∃ x, a0 = some x ∧ len0 ≤ cap0 ∧ cap0 ≤ maxLen ∧ z0.length = cap0 ∧ (∀ i, i < z0.length → w.cell? (x.add i) = some (.int .u8 (z0.getD i 0))) ∧ ∀ n ∈ z0, (Lit.int .u8 n).wf = true) (y0 : len0 * 1 ≤ 140737488351232) :
    Calls Try.prog 3 #[.slice a0 len0 cap0] w fun e w' => e = .returned (.bool true) ∧ Below w.heap.size w w' := by
  obtain ⟨l0, rfl, hr0, hm0, hw0, hc0⟩ := ReadsInt.ofRowC w0
  by_cases h : 4096 < l0.length
  · exact keep_l w h
  · exact keep_a (by omega) (byt_le hw0) (Kd.C_of_reads (d := (0 : Int)) (h1 := fun _ => rfl) hr0)
end
end Go.Proofs.Ytoedkemjidgbeaa.Dk
/- The reference's device in memory; its small methods. -/
namespace Go.Proofs.Ytoedkemjidgbeaa.Dk
open Go Go.RowKit Go.Proofs.YtoedkemjidgbeaaW.PrintWords Go.Proofs.YtoedkemjidgbeaaW.PrintLast Go.Proofs.YtoedkemjidgbeaaW.PrintMore Go.Proofs.YtoedkemjidgbeaaMy Go.Proofs.Ytoedkemjidgbeaa Go.Proofs.YtoedkemjidgbeaaPw Go.Proofs.Ytoedkemjidgbeaa.PAll
set_option linter.unusedVariables false
set_option linter.unusedSimpArgs false
def sv (f : Fl) : S75 := ⟨f.name, strOfNums f.b, (f.safe : Int)⟩
abbrev refCells (v : Value) (d : DS) : Array Value := #[v, .int .i64 d.room, .bool d.down, .int .i64 d.acts, .int .i64 d.fuse, .int .i64 d.keep, .bool d.torn]
/-- The reference's device at block g: its files in a row of its own. -/
structure RefW (S : Nat → Prop) (W : World) (g : Nat) (d : DS) (v : Value) : Prop where
  blk : W.heap[g]? = some (.cells (refCells v d) 56 (0, 0))
  sg : S g
  row : Kd.R k75 75 W 0 (fun k => S k ∧ k ≠ g) v (d.files.map sv)
def RefAt (S : Nat → Prop) (W : World) (g : Nat) (d : DS) : Prop := ∃ v, RefW S W g d v
section
variable {S S1 : Nat → Prop} {W W1 w : World} {g : Nat} {d : DS} {v : Value}
theorem RefW.move (h : RefW S W g d v) (hm : ∀ k, S k → k < W.heap.size → W1.heap[k]? = W.heap[k]?) : RefW S W1 g d v :=
  ⟨(hm g h.sg (blk_lt h.blk)).trans h.blk, h.sg, Kd.R_step h.row (fun k hk hlt => hm k hk.1 hlt)⟩
theorem RefW.below (h : RefW S W g d v) (hb : Below W.heap.size W W1) : RefW S W1 g d v := h.move (fun k _ hk => hb.block k hk)
theorem RefW.mono (h : RefW S W g d v) (hS : ∀ k, S k → S1 k) : RefW S1 W g d v := ⟨h.blk, hS _ h.sg, Kd.R_mono h.row (fun k hk => ⟨hS k hk.1, hk.2⟩)⟩
theorem RefW.cell (h : RefW S W g d v) (j : Nat) : W.cell? ⟨g, j, none⟩ = (refCells v d)[j]? := blk_cell h.blk j
theorem RefW.frozen (h : RefW S W g d v) (j : Nat) : W.frozen? ⟨g, j, none⟩ = false := blk_frozen h.blk j
theorem RefW.at (h : RefW S W g d v) : RefAt S W g d := ⟨v, h⟩
/-- A cell that isn't the files' is written. -/
theorem RefW.set_ (h : RefW S W g d v) (d' : DS) (j : Nat) (u : Value) (hf : d'.files = d.files) (hc : (refCells v d).setIfInBounds j u = refCells v d') : RefW S (W.setCell ⟨g, j, none⟩ u) g d' v := by
  refine ⟨by rw [blk_set h.blk j u, hc], h.sg, ?_⟩
  rw [hf]
  exact Kd.R_step h.row (fun k hk _ => Below.heap_setCell W ⟨g, j, none⟩ u k hk.2)
set_option maxHeartbeats 2000000 in
set_option maxRecDepth 100000 in
theorem RAct_Q (h : RefW S w g d v) (hok : d.Ok) : Calls Try.prog 55 #[.pointer (some ⟨g, 0, none⟩)] w fun e w' => e = .returned (.bool d.goes) ∧ RefW S w' g d.act v ∧ Only S w w' := by
  have z3 : w.cell? ⟨g, 3, none⟩ = some (.int .i64 d.acts) := h.cell 3
  have z4 : w.cell? ⟨g, 4, none⟩ = some (.int .i64 d.fuse) := h.cell 4
  have f3 := h.frozen 3
  have f4 := h.frozen 4
  have ha := w64 (x := d.acts + 1) (by have := hok.acts; omega) (by have := hok.acts; omega)
  have hb := w64 (x := d.fuse - 1) (by have := hok.fuse; omega) (by have := hok.fuse; omega)
  have h3 := h.set_ { d with acts := d.acts + 1 } 3 (.int .i64 (d.acts + 1)) rfl rfl
  have o3 := (Only.refl S w).setCell (g := g) (j := 3) (.inl h.sg) (.int .i64 (d.acts + 1))
  by_cases c : d.fuse = 0
  · have cb : (d.fuse == 0) = true := beq_iff_eq.mpr c
    have e1 : d.act = { d with acts := d.acts + 1 } := by
      unfold DS.act
      rw [if_pos c, ← c]
    have e2 : d.goes = false := decide_eq_false (by omega)
    rw [e1, e2]
    have H3 := Aside0.mk h3
    have O3 := Aside0.mk o3
    clear h h3 o3 hok c e1 e2 hb
    go_enter Try.func55, Try.ntmps55
    go_wp2
    go_ret
    exact ⟨rfl, H3.out, O3.out⟩
  · have cb : (d.fuse == 0) = false := beq_eq_false_iff_ne.mpr c
    have e1 : d.act = { d with acts := d.acts + 1, fuse := d.fuse - 1 } := by
      unfold DS.act
      rw [if_neg c]
    have h4 := h3.set_ { d with acts := d.acts + 1, fuse := d.fuse - 1 } 4 (.int .i64 (d.fuse - 1)) rfl rfl
    have o4 := o3.setCell (g := g) (j := 4) (.inl h.sg) (.int .i64 (d.fuse - 1))
    have e2 : d.goes = (d.fuse - 1 == 0) := by
      unfold DS.goes
      by_cases c1 : d.fuse = 1
      · rw [c1]; rfl
      · rw [decide_eq_false c1, beq_eq_false_iff_ne.mpr (by omega)]
    rw [e1, e2]
    have H4 := Aside0.mk h4
    have O4 := Aside0.mk o4
    clear h h3 o3 hok c e1 e2 h4 o4
    go_enter Try.func55, Try.ntmps55
    go_wp2
    go_ret
    exact ⟨rfl, H4.out, O4.out⟩
set_option maxHeartbeats 2000000 in
set_option maxRecDepth 100000 in
theorem RArm_Q (h : RefW S w g d v) (k keep : Int) (torn : Bool) : Calls Try.prog 49 #[.pointer (some ⟨g, 0, none⟩), .int .i64 k, .int .i64 keep, .bool torn] w fun e w' => e = .returned (.tuple #[]) ∧ RefW S w' g (d.arm k keep torn) v ∧ Only S w w' := by
  have z4 : w.cell? ⟨g, 4, none⟩ = some (.int .i64 d.fuse) := h.cell 4
  have z5 : w.cell? ⟨g, 5, none⟩ = some (.int .i64 d.keep) := h.cell 5
  have z6 : w.cell? ⟨g, 6, none⟩ = some (.bool d.torn) := h.cell 6
  have f4 := h.frozen 4
  have f5 := h.frozen 5
  have f6 := h.frozen 6
  have h0 := h.set_ { d with fuse := 0 } 4 (.int .i64 0) rfl rfl
  by_cases c : 0 < k
  · have cb : decide (0 < k) = true := decide_eq_true c
    have e : d.arm k keep torn = { d with fuse := k, keep := keep, torn := torn } := by unfold DS.arm; rw [show max k 0 = k by omega]
    rw [e]
    have h1 := h0.set_ { d with fuse := k } 4 (.int .i64 k) rfl rfl
    have h2 := h1.set_ { d with fuse := k, keep := keep } 5 (.int .i64 keep) rfl rfl
    have H3 := Aside0.mk (h2.set_ { d with fuse := k, keep := keep, torn := torn } 6 (.bool torn) rfl rfl)
    have O3 := Aside0.mk (((((Only.refl S w).setCell (g := g) (j := 4) (.inl h.sg) (.int .i64 0)).setCell (g := g) (j := 4) (.inl h.sg) (.int .i64 k)).setCell (g := g) (j := 5) (.inl h.sg) (.int .i64 keep)).setCell (g := g) (j := 6) (.inl h.sg) (.bool torn))
    clear h h0 h1 h2 c e
    go_enter Try.func49, Try.ntmps49
    go_wp2
    go_end0
    exact ⟨rfl, H3.out, O3.out⟩
  · have cb : decide (0 < k) = false := decide_eq_false c
    have e : d.arm k keep torn = { d with fuse := 0, keep := keep, torn := torn } := by unfold DS.arm; rw [show max k 0 = 0 by omega]
    rw [e]
    have h2 := h0.set_ { d with fuse := 0, keep := keep } 5 (.int .i64 keep) rfl rfl
    have H3 := Aside0.mk (h2.set_ { d with fuse := 0, keep := keep, torn := torn } 6 (.bool torn) rfl rfl)
    have O3 := Aside0.mk ((((Only.refl S w).setCell (g := g) (j := 4) (.inl h.sg) (.int .i64 0)).setCell (g := g) (j := 5) (.inl h.sg) (.int .i64 keep)).setCell (g := g) (j := 6) (.inl h.sg) (.bool torn))
    clear h h0 h2 c e
    go_enter Try.func49, Try.ntmps49
    go_wp2
    go_end0
    exact ⟨rfl, H3.out, O3.out⟩
set_option maxHeartbeats 2000000 in
set_option maxRecDepth 100000 in
theorem Good_Q (w : World) (s : ByteArray) : Calls Try.prog 59 #[.string s] w fun e w' => e = .returned (.bool (nameOk s)) ∧ ∃ nd, w' = w.drewN nd := by
  unfold nameOk
  obtain ⟨m, hm⟩ : ∃ m, s.size = m := ⟨_, rfl⟩
  rw [hm]
  by_cases c1 : 0 < m
  · have b1 : decide (1 ≤ m) = true := decide_eq_true c1
    by_cases c2 : m ≤ 32
    · have b2 : decide (m ≤ 32) = true := decide_eq_true c2
      rw [decide_eq_true (show 0 < m ∧ m ≤ 32 from ⟨c1, c2⟩)]
      go_enter Try.func59, Try.ntmps59
      go_wp2
      go_ret
      exact ⟨by first | (simp [*]; done) | (simp [*]; omega), 0, rfl⟩
    · have b2 : decide (m ≤ 32) = false := decide_eq_false c2
      rw [decide_eq_false (show ¬ (0 < m ∧ m ≤ 32) from fun h => c2 h.2)]
      go_enter Try.func59, Try.ntmps59
      go_wp2
      go_ret
      exact ⟨by first | (simp [*]; done) | (simp [*]; omega), 0, rfl⟩
  · have b1 : decide (1 ≤ m) = false := decide_eq_false c1
    rw [decide_eq_false (show ¬ (0 < m ∧ m ≤ 32) from fun h => c1 h.1)]
    go_enter Try.func59, Try.ntmps59
    go_wp2
    go_ret
    exact ⟨by first | (simp [*]; done) | (simp [*]; omega), 0, rfl⟩
/-- The place of a name; -1: there is none. -/
def atI (l : List Fl) (s : ByteArray) : Int := match l.findIdx? (fun f => decide (f.name = s)) with
  | some i => (i : Int)
  | none => -1
theorem atI_of {l : List Fl} {s : ByteArray} {k : Nat} (hk : k < l.length) (hb : ∀ i (h : i < l.length), i < k → l[i].name ≠ s) (he : l[k].name = s) : atI l s = (k : Int) := by
  unfold atI
  rw [List.findIdx?_eq_some_iff_getElem.2 ⟨hk, decide_eq_true he, fun j hj => by simp [hb j (by omega) hj]⟩]
theorem atI_no {l : List Fl} {s : ByteArray} (hb : ∀ i (h : i < l.length), i < l.length → l[i].name ≠ s) : atI l s = -1 := by
  unfold atI
  rw [List.findIdx?_eq_none_iff.2 (fun f hf => by obtain ⟨i, hi, rfl⟩ := List.getElem_of_mem hf; exact decide_eq_false (hb i hi hi))]
theorem no_step {l : List Fl} {s : ByteArray} {k : Nat} (h : ∀ i (h : i < l.length), i < k → l[i].name ≠ s) {hk : k < l.length} (hq : ¬ (l[k]'hk).name = s) : ∀ i (h : i < l.length), i < k + 1 → l[i].name ≠ s := fun i hi h1 => by
  rcases Nat.lt_or_ge i k with h2 | h2
  · exact h i hi h2
  · have : i = k := by omega
    subst this
    exact hq
/-- A file's three cells. -/
theorem RefW.file (h : RefW S w g d v) : ∃ A c, v = .slice A d.files.length c ∧ ∀ k (hk : k < d.files.length), ∃ ad : Addr, A = some ad ∧ w.cell? (ad.add (k * 3)) = some (.string (d.files[k]).name) ∧ w.cell? ⟨(ad.add (k * 3)).block, (ad.add (k * 3)).off + 1, none⟩ = some (.string (strOfNums (d.files[k]).b)) ∧ w.cell? ⟨(ad.add (k * 3)).block, (ad.add (k * 3)).off + 2, none⟩ = some (.int .i64 ((d.files[k]).safe : Int)) := by
  obtain ⟨A, c, ev⟩ := Kd.R_slice h.row
  rw [List.length_map] at ev
  refine ⟨A, c, ev, fun k hk => ?_⟩
  have hr := h.row
  rw [ev] at hr
  have hC := (Kd.R_reads' hr).2.2
  obtain ⟨ad, e, h0, h1, h2⟩ := at_T75 hC (k : Int) (by omega) (by rw [List.length_map]; omega)
  have er : rd_T75 (d.files.map sv) (k : Int) = sv d.files[k] := by
    unfold rd_T75
    rw [Int.toNat_natCast, List.getD_eq_getElem?_getD, List.getElem?_map, List.getElem?_eq_getElem hk]
    rfl
  rw [er, Int.toNat_natCast] at h0 h1 h2
  exact ⟨ad, e, h0, h1, h2⟩
set_option maxHeartbeats 2000000 in
set_option maxRecDepth 100000 in
theorem RAt_Q (h : RefW S w g d v) (s : ByteArray) (hl : d.files.length ≤ 4096) : Calls Try.prog 51 #[.pointer (some ⟨g, 0, none⟩), .string s] w fun e w' => e = .returned (.int .i64 (atI d.files s)) ∧ Below w.heap.size w w' := by
  have z0 : w.cell? ⟨g, 0, none⟩ = some v := h.cell 0
  have hu75 := Try.underlying75
  obtain ⟨A, c, ev, hall⟩ := h.file
  subst ev
  have HAll := Aside0.mk hall
  have HL := Aside0.mk hl
  clear h hall hl
  obtain ⟨n, hn⟩ : ∃ n, n = d.files.length := ⟨_, rfl⟩
  have HN := Aside0.mk hn
  rw [← hn] at z0
  clear hn
  go_enter Try.func51, Try.ntmps51
  go_wp2
  go_loopw [12] (fun i wr => ∃ k : Nat, k ≤ n ∧ i = .int .i64 (k : Int) ∧ Aside0 (∀ i (h : i < d.files.length), i < k → d.files[i].name ≠ s) ∧ Aside0 (Below w.heap.size w wr)) (fun i _ => n - (intOf i).toNat)
  case atStart => exact ⟨0, Nat.zero_le _, rfl, ⟨fun i h h2 => absurd h2 (Nat.not_lt_zero _)⟩, ⟨Below.refl _ _⟩⟩
  case round =>
    obtain ⟨k, hk, rfl, HNo, HB⟩ := hrel
    clear z0
    by_cases hlt : k < n
    · have kb : decide ((k : Int) < (n : Int)) = true := decide_eq_true (Int.ofNat_lt.2 hlt)
      obtain ⟨ad, rfl, y0, y1, y2⟩ := HAll.out k (by rw [← HN.out]; exact hlt)
      have x0 := pw_cell_below HB.out y0
      have x1 := pw_cell_below HB.out y1
      have x2 := pw_cell_below HB.out y2
      clear y0 y1 y2
      by_cases hq : (d.files[k]'(by rw [← HN.out]; exact hlt)).name = s
      · have b1 : ((d.files[k]'(by rw [← HN.out]; exact hlt)).name.toList == s.toList) = true := by rw [hq]; exact beq_self_eq_true _
        have HQ := Aside0.mk hq
        clear hq
        go_wp2
        go_ret
        exact ⟨by rw [atI_of (by rw [← HN.out]; exact hlt) HNo.out HQ.out]; rfl, below_alloc HB.out _⟩
      · have b1 : ((d.files[k]'(by rw [← HN.out]; exact hlt)).name.toList == s.toList) = false := beq_eq_false_iff_ne.mpr (fun h => hq (ba_inj h))
        have HQ := Aside0.mk hq
        clear hq
        go_wp2
        go_roundw
        case rel => exact ⟨k + 1, hlt, step_val hlt (by rw [HN.out]; exact HL.out), ⟨no_step HNo.out HQ.out⟩, ⟨below_alloc HB.out _⟩⟩
        case measure => exact step_meas hlt (by rw [HN.out]; exact HL.out)
    · have ek : k = n := Nat.le_antisymm hk (Nat.le_of_not_lt hlt)
      subst ek
      go_wp2
      go_ret
      exact ⟨by rw [atI_no (by rw [HN.out] at HNo; exact HNo.out)]; rfl, HB.out⟩
end
end Go.Proofs.Ytoedkemjidgbeaa.Dk
/- The reference's device: its files are put and dropped. -/
namespace Go.Proofs.Ytoedkemjidgbeaa.Dk
open Go Go.RowKit Go.Proofs.YtoedkemjidgbeaaW.PrintWords Go.Proofs.YtoedkemjidgbeaaW.PrintLast Go.Proofs.YtoedkemjidgbeaaW.PrintMore Go.Proofs.YtoedkemjidgbeaaMy Go.Proofs.Ytoedkemjidgbeaa Go.Proofs.YtoedkemjidgbeaaPw Go.Proofs.Ytoedkemjidgbeaa.PAll
set_option linter.unusedVariables false
set_option linter.unusedSimpArgs false
theorem infoF : (Try.prog.info? 75).map (fun i => (i.zero, i.size, i.bytes)) = some (some (.agg #[.string ⟨#[]⟩, .string ⟨#[]⟩, .int .i64 0]), 3, 40) := by kernel_rfl
abbrev fileLit (x : S75) : Obj := .cells #[.string x.f0, .string x.f1, .int .i64 x.f2] 75 (0, 0)
theorem one75 (W : World) (x : S75) : Kd.C k75 (W.alloc (fileLit x)) (some ⟨W.heap.size, 0, none⟩) 1 [x] := by
  refine ⟨rfl, by decide, fun _ => ⟨_, rfl, fun i p hp => ?_⟩⟩
  obtain rfl : i = 0 := by
    have := (List.getElem?_eq_some_iff.1 hp).1
    simp at this
    omega
  simp at hp
  subst hp
  refine ⟨_, rfl, k75_mk _ x, fun j u hj => ?_⟩
  have hb := blk_new W (fileLit x)
  have hc := blk_cell hb j
  rw [Nat.zero_mul, Nat.zero_add, Addr.add_lit, Nat.zero_add, hc]
  have h2 : ([Value.string x.f0, .string x.f1, .int .i64 x.f2] : List Value)[j]? = some u := hj
  simpa using h2
theorem k75_R {e base : Nat} {W : World} {ok ok' : Nat → Prop} {v : Value} {xs : List S75} (h : Kd.R k75 e W base ok v xs) (hok : ∀ k, v.ownBlock = some k → ok' k) : Kd.R k75 e W 0 ok' v xs := by
  obtain ⟨_, inner, ho, hr⟩ := h
  exact ⟨hok, inner, own_less ho (Nat.zero_le _), Reps.imp_ hr (fun p c hM => by rw [k75_openM hM]; exact k75_mkM _ _ _ p)⟩
theorem K_M {W : World} {base : Nat} {okp : Nat → Prop} (W0 : World) : ∀ (x : S75) (cs : List Value), k75.K W0 x cs → k75.M W base okp x cs := fun x cs h => by rw [k75_open h]; exact k75_mkM _ _ _ x
theorem one75b (W : World) (o : Obj) (x : S75) : ReadsRow (k75.K ((W.alloc o).alloc (fileLit x))) k75.sz ((W.alloc o).alloc (fileLit x)) (some ⟨W.heap.size + 1, 0, none⟩) 1 [x] := by
  have h := one75 (W.alloc o) x
  rw [show (W.alloc o).heap.size = W.heap.size + 1 by simp] at h
  exact h
theorem app_len {a b : Nat} (h : a ≤ b) (hb : b ≤ 4096) {l : List Fl} (hl : (l.map sv).length = a) : ((l.map sv).length + 1) * 40 ≤ 140737488355328 := by omega
theorem R75_3 {e base : Nat} {W : World} {v : Value} {xs : List S75} {ok : Nat → Prop} (h : Kd.R k75 e W base ok v xs) : ∃ A l c, v = .slice A l c := by
  obtain ⟨A, c, e⟩ := Kd.R_slice h
  exact ⟨A, _, c, e⟩
section
variable {S S1 : Nat → Prop} {W W1 w : World} {g : Nat} {d : DS} {v v1 : Value}
/-- New files. -/
theorem RefW.newFiles (h : RefW S w g d v) (hb : Below w.heap.size w W) {fs : List Fl} (hr : Kd.R k75 75 W w.heap.size (fun _ => True) v1 (fs.map sv)) : RefW (Grow S w) (W.setCell ⟨g, 0, none⟩ v1) g { d with files := fs } v1 ∧ Only S w (W.setCell ⟨g, 0, none⟩ v1) := by
  have hlt := blk_lt h.blk
  have e1 := (hb.block g hlt).trans h.blk
  have hge : ∀ k, v1.ownBlock = some k → w.heap.size ≤ k := fun k hk => by
    rcases Kd.R_base2 hr with h0 | ⟨k2, h2, h3⟩
    · rw [hk] at h0; cases h0
    · rw [hk] at h2; cases h2; exact h3
  refine ⟨⟨?_, .inl h.sg, ?_⟩, ((Only.refl S w).below hb).setCell (.inl h.sg) v1⟩
  · rw [blk_set e1 0 v1]; rfl
  · have h2 := Kd.R_set hr e1 (by intro q hq; simp [k75, Kd.iso, Kd.pair, Kd.string, Kd.int, Kd.scalar] at hq; omega) 0 v1
    exact k75_R h2 (fun k hk => ⟨.inr (hge k hk), by have := hge k hk; omega⟩)
/-- What stands ahead of a loop's place, without a name. -/
def keptL (l : List Fl) (s : ByteArray) (k : Nat) : List Fl := delF (l.take k) s
theorem keptL_step {l : List Fl} {s : ByteArray} {k : Nat} (hk : k < l.length) : keptL l s (k + 1) = if (l[k]'hk).name = s then keptL l s k else keptL l s k ++ [l[k]'hk] := by
  unfold keptL delF
  rw [List.take_succ_eq_append_getElem hk, List.filter_append]
  by_cases c : (l[k]'hk).name = s
  · rw [if_pos c]; simp [c]
  · rw [if_neg c]; simp [c]
theorem keptL_all (l : List Fl) (s : ByteArray) : keptL l s l.length = delF l s := by unfold keptL; rw [List.take_length]
theorem keptL_len (l : List Fl) (s : ByteArray) (k : Nat) : (keptL l s k).length ≤ l.length := by
  unfold keptL delF
  exact Nat.le_trans (List.length_filter_le _ _) (by rw [List.length_take]; exact Nat.min_le_right _ _)
set_option maxHeartbeats 2000000 in
set_option maxRecDepth 100000 in
theorem RDrop_Q (h : RefW S w g d v) (s : ByteArray) (hl : d.files.length ≤ 4096) : Calls Try.prog 60 #[.pointer (some ⟨g, 0, none⟩), .string s] w fun e w' => e = .returned (.tuple #[]) ∧ RefAt (Grow S w) w' g (d.drop s) ∧ Only S w w' := by
  have z0 : w.cell? ⟨g, 0, none⟩ = some v := h.cell 0
  have hu75 := Try.underlying75
  obtain ⟨A, c, ev, hall⟩ := h.file
  have HW := Aside0.mk h
  subst ev
  have HAll := Aside0.mk hall
  have HL := Aside0.mk hl
  clear h hall hl
  obtain ⟨n, hn⟩ : ∃ n, n = d.files.length := ⟨_, rfl⟩
  have HN := Aside0.mk hn
  rw [← hn] at z0
  clear hn
  go_enter Try.func60, Try.ntmps60
  go_wp2
  go_loopw [4, 12] (fun o i wr => ∃ k : Nat, k ≤ n ∧ i = .int .i64 (k : Int) ∧ Aside0 (Kd.R k75 75 wr w.heap.size (fun _ => True) o ((keptL d.files s k).map sv)) ∧ Aside0 (Below w.heap.size w wr)) (fun _ i _ => n - (intOf i).toNat)
  case atStart => exact ⟨0, Nat.zero_le _, rfl, ⟨Kd.R_nil _ _ _ _ _⟩, ⟨Below.refl _ _⟩⟩
  case round =>
    obtain ⟨k, hk, rfl, HR, HB⟩ := hrel
    clear z0
    by_cases hlt : k < n
    · have kb : decide ((k : Int) < (n : Int)) = true := decide_eq_true (Int.ofNat_lt.2 hlt)
      obtain ⟨ad, rfl, y0, y1, y2⟩ := HAll.out k (by rw [← HN.out]; exact hlt)
      have x0 := pw_cell_below HB.out y0
      have x1 := pw_cell_below HB.out y1
      have x2 := pw_cell_below HB.out y2
      clear y0 y1 y2
      by_cases hq : (d.files[k]'(by rw [← HN.out]; exact hlt)).name = s
      · have b0 : ((d.files[k]'(by rw [← HN.out]; exact hlt)).name.toList == s.toList) = true := by rw [hq]; exact beq_self_eq_true _
        have b1 : ((d.files[k]'(by rw [← HN.out]; exact hlt)).name.toList != s.toList) = false := bne_eq_false_iff_eq.mpr (by rw [hq])
        have HE := Aside0.mk (keptL_step (l := d.files) (s := s) (by rw [← HN.out]; exact hlt))
        rw [if_pos hq] at HE
        clear hq
        go_wp2
        go_roundw
        case rel => exact ⟨k + 1, hlt, step_val hlt (by rw [HN.out]; exact HL.out), ⟨by rw [HE.out]; exact Kd.R_alloc HR.out _⟩, ⟨below_alloc HB.out _⟩⟩
        case measure => exact step_meas hlt (by rw [HN.out]; exact HL.out)
      · have b0 : ((d.files[k]'(by rw [← HN.out]; exact hlt)).name.toList == s.toList) = false := beq_eq_false_iff_ne.mpr (fun h => hq (ba_inj h))
        have b1 : ((d.files[k]'(by rw [← HN.out]; exact hlt)).name.toList != s.toList) = true := bne_iff_ne.mpr (fun h => hq (ba_inj h))
        have HE := Aside0.mk (keptL_step (l := d.files) (s := s) (by rw [← HN.out]; exact hlt))
        rw [if_neg hq] at HE
        clear hq
        go_wp2_with (first
          | ((with_reducible refine gate_builtin (b := .append) (xs := #[.tmp 20, .tmp 22]) rfl ?_); (try (refine gate_guard (by rfl) ?_; dsimp only)); at_builtin; refine Kd.R_append_rows k75 (w0 := w) w.heap.size rfl (.tmp 20) (.tmp 22) 54 75 (.agg #[.string ⟨#[]⟩, .string ⟨#[]⟩, .int .i64 0]) 40 rfl Try.underlying54 infoF rfl (by decide) (by omega) u4 ((keptL d.files s k).map sv) [sv (d.files[k]'(by rw [← HN.out]; exact hlt))] _ 1 1 (fun _ => True) (fun _ => False) rfl rfl (Kd.R_alloc (Kd.R_alloc HR.out _) _) (one75b wr _ (sv (d.files[k]'(by rw [← HN.out]; exact hlt)))) (K_M _) (fun _ h => h.elim) (fun _ _ => trivial) (below_alloc (below_alloc HB.out _) _) (below_alloc (below_alloc HB.out _) _).size (app_len (keptL_len d.files s k) HL.out (List.length_map _)) ?_; intro v1 w5 hr5 hb5 hg5 hat5; have HR5 := Aside0.mk hr5; have HB5 := Aside0.mk hb5; clear hr5 hb5 hg5 hat5))
        go_roundw
        case rel => exact ⟨k + 1, hlt, step_val hlt (by rw [HN.out]; exact HL.out), ⟨by rw [HE.out, List.map_append]; exact HR5.out⟩, ⟨HB5.out⟩⟩
        case measure => exact step_meas hlt (by rw [HN.out]; exact HL.out)
    · have ek : k = n := Nat.le_antisymm hk (Nat.le_of_not_lt hlt)
      subst ek
      have zg := HW.out.below HB.out
      have z0r : wr.cell? ⟨g, 0, none⟩ = some (.slice A k c) := by have := zg.cell 0; rw [HN.out]; exact this
      have f0r := zg.frozen 0
      have HEnd := Aside0.mk (HW.out.newFiles (fs := delF d.files s) HB.out (by have := HR.out; rw [HN.out, keptL_all] at this; exact this))
      obtain ⟨A4, l4, c4, e4⟩ := R75_3 HR.out
      subst e4
      clear zg HR
      go_wp2
      go_end0
      exact ⟨rfl, HEnd.out.1.at, HEnd.out.2⟩
end
end Go.Proofs.Ytoedkemjidgbeaa.Dk
/- The reference's device: a file is put among the others. -/
namespace Go.Proofs.Ytoedkemjidgbeaa.Dk
open Go Go.RowKit Go.Proofs.YtoedkemjidgbeaaW.PrintWords Go.Proofs.YtoedkemjidgbeaaW.PrintLast Go.Proofs.YtoedkemjidgbeaaW.PrintMore Go.Proofs.YtoedkemjidgbeaaMy Go.Proofs.Ytoedkemjidgbeaa Go.Proofs.YtoedkemjidgbeaaPw Go.Proofs.Ytoedkemjidgbeaa.PAll
set_option linter.unusedVariables false
set_option linter.unusedSimpArgs false
/-- a is less than b, as the program asks. -/
def ltN (a b : ByteArray) : Bool := !(Op.bytesLess b.toList a.toList || (b.toList == a.toList))
theorem ltN_yes {a b : ByteArray} (h : ltN a b = true) : Op.bytesLess b.toList a.toList = false := by unfold ltN at h; cases e : Op.bytesLess b.toList a.toList <;> simp_all
theorem ltN_no {a b : ByteArray} (h : ¬ ltN a b = true) (h2 : (b.toList == a.toList) = false) : Op.bytesLess b.toList a.toList = true := by unfold ltN at h; rw [h2] at h; cases e : Op.bytesLess b.toList a.toList <;> simp_all
theorem binOp_gtr_str (t : TypeId) (a b : ByteArray) : binOp .gtr t (.string a) (.string b) = pure (.bool (ltN b a)) := by simp [binOp, Op.stringOp, ltN]
attribute [local go_sem] binOp_gtr_str
/-- A file is put ahead of the first one of a greater name; the one of its name is left out. -/
def putGo (f : Fl) : Bool → List Fl → List Fl
  | done, [] => if done then [] else [f]
  | done, x :: r => if x.name = f.name then putGo f done r else if done = false ∧ ltN f.name x.name = true then f :: x :: putGo f true r else x :: putGo f done r
def putS (l : List Fl) (f : Fl) : List Fl := putGo f false l
structure PutAt (l : List Fl) (f : Fl) (k : Nat) (done : Bool) (out : List Fl) : Prop where
  eq : putS l f = out ++ putGo f done (l.drop k)
  len : out.length ≤ k + (if done then 1 else 0)
section
variable {l out : List Fl} {f : Fl} {k : Nat} {done : Bool}
theorem PutAt.start : PutAt l f 0 false [] := ⟨rfl, Nat.zero_le _⟩
theorem PutAt.skip (h : PutAt l f k done out) (hk : k < l.length) (hq : (l[k]'hk).name = f.name) : PutAt l f (k + 1) done out := by
  refine ⟨?_, by have := h.len; omega⟩
  rw [h.eq, List.drop_eq_getElem_cons hk]
  congr 1
  exact if_pos hq
theorem PutAt.both (h : PutAt l f k false out) (hk : k < l.length) (hq : ¬ (l[k]'hk).name = f.name) (hl : ltN f.name (l[k]'hk).name = true) : PutAt l f (k + 1) true (out ++ [f] ++ [l[k]'hk]) := by
  refine ⟨?_, by have := h.len; simp only [List.length_append, List.length_cons, List.length_nil]; simp at this ⊢; omega⟩
  rw [h.eq, List.drop_eq_getElem_cons hk]
  rw [show putGo f false ((l[k]'hk) :: l.drop (k + 1)) = f :: (l[k]'hk) :: putGo f true (l.drop (k + 1)) by rw [putGo, if_neg hq, if_pos ⟨rfl, hl⟩]]
  simp
theorem PutAt.one (h : PutAt l f k done out) (hk : k < l.length) (hq : ¬ (l[k]'hk).name = f.name) (hl : ¬ (done = false ∧ ltN f.name (l[k]'hk).name = true)) : PutAt l f (k + 1) done (out ++ [l[k]'hk]) := by
  refine ⟨?_, by have := h.len; simp only [List.length_append, List.length_cons, List.length_nil]; omega⟩
  rw [h.eq, List.drop_eq_getElem_cons hk]
  rw [show putGo f done ((l[k]'hk) :: l.drop (k + 1)) = (l[k]'hk) :: putGo f done (l.drop (k + 1)) by rw [putGo, if_neg hq, if_neg hl]]
  simp
theorem PutAt.endT (h : PutAt l f l.length true out) : out = putS l f := by rw [h.eq, List.drop_length]; simp [putGo]
theorem PutAt.endF (h : PutAt l f l.length false out) : out ++ [f] = putS l f := by rw [h.eq, List.drop_length]; simp [putGo]
theorem PutAt.small (h : PutAt l f k done out) (hk : k ≤ l.length) (hl : l.length ≤ 4096) : ((out.map sv).length + 1) * 40 ≤ 140737488355328 := by
  have := h.len
  rw [List.length_map]
  split at this <;> omega
end
theorem small2 {l out : List Fl} {f : Fl} {k : Nat} (h : PutAt l f k false out) (hk : k < l.length) (hl : l.length ≤ 4096) : ((out.map sv ++ [sv f]).length + 1) * 40 ≤ 140737488355328 := by
  have := h.len
  simp at this
  simp only [List.length_append, List.length_map, List.length_cons, List.length_nil]
  omega
theorem x_blk (wr : World) (x f : Fl) : ((wr.alloc (fileLit (sv x))).alloc (fileLit (sv f))).heap[wr.heap.size]? = some (fileLit (sv x)) :=
  ((below_alloc (Below.refl (wr.alloc (fileLit (sv x))).heap.size (wr.alloc (fileLit (sv x)))) (fileLit (sv f))).block wr.heap.size (by simp)).trans (blk_new wr (fileLit (sv x)))
theorem out_ne {wr : World} {e base : Nat} {ok : Nat → Prop} {v : Value} {xs : List S75} (h : Kd.R k75 e wr base ok v xs) : some wr.heap.size ≠ v.ownBlock := fun e => by have := Kd.R_lt h _ e.symm; omega
theorem R75_less {e base base' : Nat} {W : World} {v : Value} {xs : List S75} (h : Kd.R k75 e W base (fun _ => True) v xs) (hb : base' ≤ base) : Kd.R k75 e W base' (fun _ => True) v xs := by
  obtain ⟨_, inner, ho, hr⟩ := h
  exact ⟨fun _ _ => trivial, inner, own_less ho hb, Reps.imp_ hr (fun p c hM => by rw [k75_openM hM]; exact k75_mkM _ _ _ p)⟩
theorem al_le {b : Nat} {W : World} {o : Obj} (h : b ≤ W.heap.size) : b ≤ (W.alloc o).heap.size := Nat.le_trans h (by simp)
theorem one75a (W : World) (x : S75) : ReadsRow (k75.K (W.alloc (fileLit x))) k75.sz (W.alloc (fileLit x)) (some ⟨W.heap.size, 0, none⟩) 1 [x] := one75 W x
section
variable {S S1 : Nat → Prop} {W W1 w : World} {g : Nat} {d : DS} {v v1 : Value}
set_option maxHeartbeats 2000000 in
set_option maxRecDepth 100000 in
theorem RPut_Q (h : RefW S w g d v) (f : Fl) (hl : d.files.length ≤ 4096) : Calls Try.prog 56 #[.pointer (some ⟨g, 0, none⟩), .agg #[.string f.name, .string (strOfNums f.b), .int .i64 (f.safe : Int)]] w fun e w' => e = .returned (.tuple #[]) ∧ RefAt (Grow S w) w' g { d with files := putS d.files f } ∧ Only S w w' := by
  have z0 : w.cell? ⟨g, 0, none⟩ = some v := h.cell 0
  have hu75 := Try.underlying75
  obtain ⟨A, c, ev, hall⟩ := h.file
  have HW := Aside0.mk h
  subst ev
  have HAll := Aside0.mk hall
  have HL := Aside0.mk hl
  clear h hall hl
  obtain ⟨n, hn⟩ : ∃ n, n = d.files.length := ⟨_, rfl⟩
  have HN := Aside0.mk hn
  rw [← hn] at z0
  clear hn
  have HB0 := Aside0.mk (show Below w.heap.size w (w.alloc (.cells #[.string f.name, .string (strOfNums f.b), .int .i64 (f.safe : Int)] 75 (0, 0))) from below_alloc (Below.refl _ _) _)
  have z0a : (w.alloc (.cells #[.string f.name, .string (strOfNums f.b), .int .i64 (f.safe : Int)] 75 (0, 0))).cell? ⟨g, 0, none⟩ = some (.slice A n c) := pw_cell_below HB0.out z0
  have fb := blk_new w (fileLit (sv f))
  have f0 : (w.alloc (.cells #[.string f.name, .string (strOfNums f.b), .int .i64 (f.safe : Int)] 75 (0, 0))).cell? ⟨w.heap.size, 0, none⟩ = some (.string f.name) := (blk_cell fb 0).trans rfl
  have f1 : (w.alloc (.cells #[.string f.name, .string (strOfNums f.b), .int .i64 (f.safe : Int)] 75 (0, 0))).cell? ⟨w.heap.size, 1, none⟩ = some (.string (strOfNums f.b)) := (blk_cell fb 1).trans rfl
  have f2 : (w.alloc (.cells #[.string f.name, .string (strOfNums f.b), .int .i64 (f.safe : Int)] 75 (0, 0))).cell? ⟨w.heap.size, 2, none⟩ = some (.int .i64 (f.safe : Int)) := (blk_cell fb 2).trans rfl
  have HF0 := Aside0.mk f0
  have HF1 := Aside0.mk f1
  have HF2 := Aside0.mk f2
  have HS1 := Aside0.mk (show (w.alloc (.cells #[.string f.name, .string (strOfNums f.b), .int .i64 (f.safe : Int)] 75 (0, 0))).heap.size = w.heap.size + 1 by simp)
  clear fb f0 f1 f2
  go_enter Try.func56, Try.ntmps56
  go_wp2
  go_loopw [4, 5, 13] (fun o dn i wr => ∃ (k : Nat) (done : Bool) (out : List Fl), k ≤ n ∧ i = .int .i64 (k : Int) ∧ dn = .bool done ∧ Aside0 (PutAt d.files f k done out) ∧ Aside0 (Kd.R k75 75 wr (w.heap.size + 1) (fun _ => True) o (out.map sv)) ∧ Aside0 (Below (w.heap.size + 1) (w.alloc (.cells #[.string f.name, .string (strOfNums f.b), .int .i64 (f.safe : Int)] 75 (0, 0))) wr)) (fun _ _ i _ => n - (intOf i).toNat)
  case atStart => exact ⟨0, false, [], Nat.zero_le _, rfl, rfl, ⟨PutAt.start⟩, ⟨Kd.R_nil _ _ _ _ _⟩, ⟨Below.refl _ _⟩⟩
  case round =>
    obtain ⟨k, done, out, hk, rfl, rfl, HP, HR, HB⟩ := hrel
    clear z0 z0a
    have HBw := Aside0.mk (HB0.out.trans (HB.out.mono (by omega)))
    have HSz := Aside0.mk (show w.heap.size + 1 ≤ wr.heap.size from by have := HB.out.size; have := HS1.out; omega)
    have g0 := pw_cell_below (HS1.out ▸ HB.out) HF0.out
    have g1 := pw_cell_below (HS1.out ▸ HB.out) HF1.out
    have g2 := pw_cell_below (HS1.out ▸ HB.out) HF2.out
    by_cases hlt : k < n
    · have kb : decide ((k : Int) < (n : Int)) = true := decide_eq_true (Int.ofNat_lt.2 hlt)
      obtain ⟨ad, rfl, y0, y1, y2⟩ := HAll.out k (by rw [← HN.out]; exact hlt)
      have x0 := pw_cell_below HBw.out y0
      have x1 := pw_cell_below HBw.out y1
      have x2 := pw_cell_below HBw.out y2
      clear y0 y1 y2
      have g0a : (wr.alloc (.cells #[.string (d.files[k]'(by rw [← HN.out]; exact hlt)).name, .string (strOfNums (d.files[k]'(by rw [← HN.out]; exact hlt)).b), .int .i64 ((d.files[k]'(by rw [← HN.out]; exact hlt)).safe : Int)] 75 (0, 0))).cell? ⟨w.heap.size, 0, none⟩ = some (.string f.name) := box_past _ g0
      have g1a : (wr.alloc (.cells #[.string (d.files[k]'(by rw [← HN.out]; exact hlt)).name, .string (strOfNums (d.files[k]'(by rw [← HN.out]; exact hlt)).b), .int .i64 ((d.files[k]'(by rw [← HN.out]; exact hlt)).safe : Int)] 75 (0, 0))).cell? ⟨w.heap.size, 1, none⟩ = some (.string (strOfNums f.b)) := box_past _ g1
      have g2a : (wr.alloc (.cells #[.string (d.files[k]'(by rw [← HN.out]; exact hlt)).name, .string (strOfNums (d.files[k]'(by rw [← HN.out]; exact hlt)).b), .int .i64 ((d.files[k]'(by rw [← HN.out]; exact hlt)).safe : Int)] 75 (0, 0))).cell? ⟨w.heap.size, 2, none⟩ = some (.int .i64 (f.safe : Int)) := box_past _ g2
      by_cases hq : (d.files[k]'(by rw [← HN.out]; exact hlt)).name = f.name
      · have b0 : ((d.files[k]'(by rw [← HN.out]; exact hlt)).name.toList == f.name.toList) = true := by rw [hq]; exact beq_self_eq_true _
        have HE := Aside0.mk (HP.out.skip (by rw [← HN.out]; exact hlt) hq)
        clear hq
        go_wp2
        go_roundw
        case rel => exact ⟨k + 1, done, out, hlt, step_val hlt (by rw [HN.out]; exact HL.out), rfl, HE, ⟨Kd.R_alloc HR.out _⟩, ⟨HB.out.alloc HSz.out _⟩⟩
        case measure => exact step_meas hlt (by rw [HN.out]; exact HL.out)
      · have b0 : ((d.files[k]'(by rw [← HN.out]; exact hlt)).name.toList == f.name.toList) = false := beq_eq_false_iff_ne.mpr (fun h => hq (ba_inj h))
        have HQ := Aside0.mk hq
        clear hq
        cases done with
        | true =>
          have HLt := Aside0.mk (show ¬ (true = false ∧ ltN f.name (d.files[k]'(by rw [← HN.out]; exact hlt)).name = true) from fun h => Bool.noConfusion h.1)
          have HE := Aside0.mk (HP.out.one (by rw [← HN.out]; exact hlt) HQ.out HLt.out)
          go_wp2_with (first
            | ((with_reducible refine gate_builtin (b := .append) (xs := #[.tmp 35, .tmp 37]) rfl ?_); (try (refine gate_guard (by rfl) ?_; dsimp only)); at_builtin; refine Kd.R_append_rows k75 (w0 := (w.alloc (.cells #[.string f.name, .string (strOfNums f.b), .int .i64 (f.safe : Int)] 75 (0, 0)))) (w.heap.size + 1) rfl (.tmp 35) (.tmp 37) 54 75 (.agg #[.string ⟨#[]⟩, .string ⟨#[]⟩, .int .i64 0]) 40 rfl Try.underlying54 infoF rfl (by decide) (by omega) u4 (out.map sv) [sv (d.files[k]'(by rw [← HN.out]; exact hlt))] _ 1 1 (fun _ => True) (fun _ => False) rfl rfl (Kd.R_alloc (Kd.R_alloc HR.out _) _) (one75b wr _ (sv (d.files[k]'(by rw [← HN.out]; exact hlt)))) (K_M _) (fun _ h => h.elim) (fun _ _ => trivial) ((HB.out.alloc HSz.out _).alloc (al_le HSz.out) _) (al_le (al_le HSz.out)) (HP.out.small (Nat.le_of_lt (by rw [← HN.out]; exact hlt)) HL.out) ?_; intro v1 w5 hr5 hb5 hg5 hat5; have HR5 := Aside0.mk hr5; have HB5 := Aside0.mk hb5; clear hr5 hb5 hg5 hat5))
          go_roundw
          case rel => exact ⟨k + 1, true, out ++ [(d.files[k]'(by rw [← HN.out]; exact hlt))], hlt, step_val hlt (by rw [HN.out]; exact HL.out), rfl, HE, ⟨by rw [List.map_append]; exact HR5.out⟩, ⟨HB5.out⟩⟩
          case measure => exact step_meas hlt (by rw [HN.out]; exact HL.out)
        | false =>
          by_cases hlt2 : ltN f.name (d.files[k]'(by rw [← HN.out]; exact hlt)).name = true
          · have b3 : ltN f.name (d.files[k]'(by rw [← HN.out]; exact hlt)).name = true := hlt2
            have HE := Aside0.mk (HP.out.both (by rw [← HN.out]; exact hlt) HQ.out hlt2)
            clear hlt2
            go_wp2_with (first
              | ((with_reducible refine gate_builtin (b := .append) (xs := #[.tmp 31, .tmp 33]) rfl ?_); (try (refine gate_guard (by rfl) ?_; dsimp only)); at_builtin; refine Kd.R_append_rows k75 (w0 := (w.alloc (.cells #[.string f.name, .string (strOfNums f.b), .int .i64 (f.safe : Int)] 75 (0, 0)))) (w.heap.size + 1) rfl (.tmp 31) (.tmp 33) 54 75 (.agg #[.string ⟨#[]⟩, .string ⟨#[]⟩, .int .i64 0]) 40 rfl Try.underlying54 infoF rfl (by decide) (by omega) u4 (out.map sv) [sv f] _ 1 1 (fun _ => True) (fun _ => False) rfl rfl (Kd.R_alloc (Kd.R_alloc HR.out _) _) (one75b wr _ (sv f)) (K_M _) (fun _ h => h.elim) (fun _ _ => trivial) ((HB.out.alloc HSz.out _).alloc (al_le HSz.out) _) (al_le (al_le HSz.out)) (HP.out.small (Nat.le_of_lt (by rw [← HN.out]; exact hlt)) HL.out) ?_; intro v1 w5 hr5 hb5 hg5 hat5; obtain ⟨A5, l5, c5, e5⟩ := R75_3 hr5; subst e5; have hxb := x_blk wr (d.files[k]'(by rw [← HN.out]; exact hlt)) f; have q0 := blk_grown hxb hg5 (out_ne HR.out); have p0 : w5.cell? ⟨wr.heap.size, 0, none⟩ = some (.string (d.files[k]'(by rw [← HN.out]; exact hlt)).name) := (blk_cell q0 0).trans rfl; have p1 : w5.cell? ⟨wr.heap.size, 1, none⟩ = some (.string (strOfNums (d.files[k]'(by rw [← HN.out]; exact hlt)).b)) := (blk_cell q0 1).trans rfl; have p2 : w5.cell? ⟨wr.heap.size, 2, none⟩ = some (.int .i64 ((d.files[k]'(by rw [← HN.out]; exact hlt)).safe : Int)) := (blk_cell q0 2).trans rfl; have HR5 := Aside0.mk hr5; have HB5 := Aside0.mk hb5; have HS5 := Aside0.mk (Nat.le_trans (al_le (al_le HSz.out)) hg5.size); clear hr5 hb5 hg5 hat5 hxb q0)
              | ((with_reducible refine gate_builtin (b := .append) (xs := #[.tmp 35, .tmp 37]) rfl ?_); (try (refine gate_guard (by rfl) ?_; dsimp only)); at_builtin; refine Kd.R_append_rows k75 (w0 := (w.alloc (.cells #[.string f.name, .string (strOfNums f.b), .int .i64 (f.safe : Int)] 75 (0, 0)))) (w.heap.size + 1) rfl (.tmp 35) (.tmp 37) 54 75 (.agg #[.string ⟨#[]⟩, .string ⟨#[]⟩, .int .i64 0]) 40 rfl Try.underlying54 infoF rfl (by decide) (by omega) (.slice A5 l5 c5) (out.map sv ++ [sv f]) [sv (d.files[k]'(by rw [← HN.out]; exact hlt))] _ 1 1 (fun _ => True) (fun _ => False) rfl rfl (Kd.R_alloc HR5.out _) (one75a w5 (sv (d.files[k]'(by rw [← HN.out]; exact hlt)))) (K_M _) (fun _ h => h.elim) (fun _ _ => trivial) (HB5.out.alloc HS5.out _) (al_le HS5.out) (small2 HP.out (by rw [← HN.out]; exact hlt) HL.out) ?_; intro v1 w6 hr6 hb6 hg6 hat6; have HR6 := Aside0.mk hr6; have HB6 := Aside0.mk hb6; clear hr6 hb6 hg6 hat6))
            go_roundw
            case rel => exact ⟨k + 1, true, out ++ [f] ++ [(d.files[k]'(by rw [← HN.out]; exact hlt))], hlt, step_val hlt (by rw [HN.out]; exact HL.out), rfl, HE, ⟨by rw [List.map_append, List.map_append]; exact HR6.out⟩, ⟨HB6.out⟩⟩
            case measure => exact step_meas hlt (by rw [HN.out]; exact HL.out)
          · have HLt := Aside0.mk (show ¬ (false = false ∧ ltN f.name (d.files[k]'(by rw [← HN.out]; exact hlt)).name = true) from fun h => hlt2 h.2)
            have b3 : ltN f.name (d.files[k]'(by rw [← HN.out]; exact hlt)).name = false := Bool.eq_false_iff.2 hlt2
            clear hlt2
            have HE := Aside0.mk (HP.out.one (by rw [← HN.out]; exact hlt) HQ.out HLt.out)
            go_wp2_with (first
              | ((with_reducible refine gate_builtin (b := .append) (xs := #[.tmp 35, .tmp 37]) rfl ?_); (try (refine gate_guard (by rfl) ?_; dsimp only)); at_builtin; refine Kd.R_append_rows k75 (w0 := (w.alloc (.cells #[.string f.name, .string (strOfNums f.b), .int .i64 (f.safe : Int)] 75 (0, 0)))) (w.heap.size + 1) rfl (.tmp 35) (.tmp 37) 54 75 (.agg #[.string ⟨#[]⟩, .string ⟨#[]⟩, .int .i64 0]) 40 rfl Try.underlying54 infoF rfl (by decide) (by omega) u4 (out.map sv) [sv (d.files[k]'(by rw [← HN.out]; exact hlt))] _ 1 1 (fun _ => True) (fun _ => False) rfl rfl (Kd.R_alloc (Kd.R_alloc HR.out _) _) (one75b wr _ (sv (d.files[k]'(by rw [← HN.out]; exact hlt)))) (K_M _) (fun _ h => h.elim) (fun _ _ => trivial) ((HB.out.alloc HSz.out _).alloc (al_le HSz.out) _) (al_le (al_le HSz.out)) (HP.out.small (Nat.le_of_lt (by rw [← HN.out]; exact hlt)) HL.out) ?_; intro v1 w5 hr5 hb5 hg5 hat5; have HR5 := Aside0.mk hr5; have HB5 := Aside0.mk hb5; clear hr5 hb5 hg5 hat5))
            go_roundw
            case rel => exact ⟨k + 1, false, out ++ [(d.files[k]'(by rw [← HN.out]; exact hlt))], hlt, step_val hlt (by rw [HN.out]; exact HL.out), rfl, HE, ⟨by rw [List.map_append]; exact HR5.out⟩, ⟨HB5.out⟩⟩
            case measure => exact step_meas hlt (by rw [HN.out]; exact HL.out)
    · have ek : k = n := Nat.le_antisymm hk (Nat.le_of_not_lt hlt)
      have HE := Aside0.mk ek
      rw [ek, HN.out] at HP
      have kb : decide ((k : Int) < (n : Int)) = false := decide_eq_false (fun h => hlt (Int.ofNat_lt.1 h))
      obtain ⟨A4, l4, c4, e4⟩ := R75_3 HR.out
      subst e4
      cases done with
      | true =>
        have zg := HW.out.below HBw.out
        have z0r : wr.cell? ⟨g, 0, none⟩ = some (.slice A n c) := by have := zg.cell 0; rw [HN.out]; exact this
        have f0r := zg.frozen 0
        have HEnd := Aside0.mk (HW.out.newFiles (fs := putS d.files f) HBw.out (by have h1 := R75_less HR.out (Nat.le_succ w.heap.size); rw [HP.out.endT] at h1; exact h1))
        clear zg
        go_wp2
        go_end0
        exact ⟨rfl, HEnd.out.1.at, HEnd.out.2⟩
      | false =>
        go_wp2_with (first
          | ((with_reducible refine gate_builtin (b := .append) (xs := #[.tmp 42, .tmp 44]) rfl ?_); (try (refine gate_guard (by rfl) ?_; dsimp only)); at_builtin; refine Kd.R_append_rows k75 (w0 := (w.alloc (.cells #[.string f.name, .string (strOfNums f.b), .int .i64 (f.safe : Int)] 75 (0, 0)))) (w.heap.size + 1) rfl (.tmp 42) (.tmp 44) 54 75 (.agg #[.string ⟨#[]⟩, .string ⟨#[]⟩, .int .i64 0]) 40 rfl Try.underlying54 infoF rfl (by decide) (by omega) (.slice A4 l4 c4) (out.map sv) [sv f] _ 1 1 (fun _ => True) (fun _ => False) rfl rfl (Kd.R_alloc HR.out _) (one75a wr (sv f)) (K_M _) (fun _ h => h.elim) (fun _ _ => trivial) (HB.out.alloc HSz.out _) (al_le HSz.out) (HP.out.small (Nat.le_refl _) HL.out) ?_; intro v1 w5 hr5 hb5 hg5 hat5; obtain ⟨A5, l5, c5, e5⟩ := R75_3 hr5; subst e5; have hbw5 := HB0.out.trans (hb5.mono (by omega)); have zg := HW.out.below hbw5; have z0r : w5.cell? ⟨g, 0, none⟩ = some (.slice A n c) := (by have := zg.cell 0; rw [HN.out]; exact this); have f0r := zg.frozen 0; have HEnd := Aside0.mk (HW.out.newFiles (fs := putS d.files f) hbw5 (by have h1 := R75_less hr5 (Nat.le_succ w.heap.size); rw [← HP.out.endF, List.map_append]; exact h1)); clear hr5 hb5 hg5 hat5 zg))
        go_end0
        exact ⟨rfl, HEnd.out.1.at, HEnd.out.2⟩
end
end Go.Proofs.Ytoedkemjidgbeaa.Dk
/- The reference's device: Free, Names, may, begins. -/
namespace Go.Proofs.Ytoedkemjidgbeaa.Dk
open Go Go.RowKit Go.Proofs.YtoedkemjidgbeaaW.PrintWords Go.Proofs.YtoedkemjidgbeaaW.PrintLast Go.Proofs.YtoedkemjidgbeaaW.PrintMore Go.Proofs.YtoedkemjidgbeaaMy Go.Proofs.Ytoedkemjidgbeaa Go.Proofs.YtoedkemjidgbeaaPw Go.Proofs.Ytoedkemjidgbeaa.PAll
set_option linter.unusedVariables false
set_option linter.unusedSimpArgs false
theorem sizes_append (a b : List Fl) : sizes (a ++ b) = sizes a + sizes b := by unfold sizes; rw [List.map_append, List.sum_append]
theorem sizes_take {l : List Fl} {k : Nat} (hk : k < l.length) : sizes (l.take (k + 1)) = sizes (l.take k) + ((l[k]'hk).b.length : Int) := by
  rw [List.take_succ_eq_append_getElem hk, sizes_append]
  simp [sizes]
theorem sizes_take_le (l : List Fl) (k : Nat) : 0 ≤ sizes (l.take k) ∧ sizes (l.take k) ≤ sizes l := by
  have h := sizes_append (l.take k) (l.drop k)
  rw [List.take_append_drop] at h
  have h1 := sizes_nonneg (l.take k)
  have h2 := sizes_nonneg (l.drop k)
  omega
theorem str_size2 (l : List Int) : (strOfNums l).size = l.length := by simp [strOfNums, ByteArray.size]
theorem free_step {d : DS} (hf : d.Fit) {k : Nat} (hk : k < d.files.length) : wrap64 (d.room - sizes (d.files.take k) - (((d.files[k]'hk).b.length : Nat) : Int)) = d.room - sizes (d.files.take (k + 1)) := by
  have h1 := sizes_take_le d.files k
  have h2 := sizes_take_le d.files (k + 1)
  have h3 := sizes_take hk
  have h4 := hf.fits
  have h5 := hf.room
  rw [w64 (by omega) (by omega)]
  omega
section
variable {S S1 : Nat → Prop} {W W1 w : World} {g : Nat} {d : DS} {v v1 : Value}
set_option maxHeartbeats 2000000 in
set_option maxRecDepth 100000 in
theorem RFree_Q (h : RefW S w g d v) (hf : d.Fit) (hl : d.files.length ≤ 4096) : Calls Try.prog 29 #[.pointer (some ⟨g, 0, none⟩)] w fun e w' => e = .returned (.int .i64 d.free) ∧ Below w.heap.size w w' := by
  have z0 : w.cell? ⟨g, 0, none⟩ = some v := h.cell 0
  have z1 : w.cell? ⟨g, 1, none⟩ = some (.int .i64 d.room) := h.cell 1
  have hu75 := Try.underlying75
  obtain ⟨A, c, ev, hall⟩ := h.file
  subst ev
  have HAll := Aside0.mk hall
  have HL := Aside0.mk hl
  have HF := Aside0.mk hf
  clear h hall hl hf
  obtain ⟨n, hn⟩ : ∃ n, n = d.files.length := ⟨_, rfl⟩
  have HN := Aside0.mk hn
  rw [← hn] at z0
  clear hn
  go_enter Try.func29, Try.ntmps29
  go_wp2
  go_loopw [3, 15] (fun u i wr => ∃ k : Nat, k ≤ n ∧ i = .int .i64 (k : Int) ∧ u = .int .i64 (d.room - sizes (d.files.take k)) ∧ Aside0 (Below w.heap.size w wr)) (fun _ i _ => n - (intOf i).toNat)
  case atStart => exact ⟨0, Nat.zero_le _, rfl, by simp [sizes], ⟨Below.refl _ _⟩⟩
  case round =>
    obtain ⟨k, hk, rfl, rfl, HB⟩ := hrel
    clear z0 z1
    by_cases hlt : k < n
    · have kb : decide ((k : Int) < (n : Int)) = true := decide_eq_true (Int.ofNat_lt.2 hlt)
      obtain ⟨ad, rfl, y0, y1, y2⟩ := HAll.out k (by rw [← HN.out]; exact hlt)
      have x0 := pw_cell_below HB.out y0
      have x1 := pw_cell_below HB.out y1
      have x2 := pw_cell_below HB.out y2
      have hs := str_size2 (d.files[k]'(by rw [← HN.out]; exact hlt)).b
      have hw := free_step HF.out (by rw [← HN.out]; exact hlt)
      clear y0 y1 y2
      go_wp2
      go_roundw
      case rel => exact ⟨k + 1, hlt, step_val hlt (by rw [HN.out]; exact HL.out), by rw [hw], ⟨below_alloc HB.out _⟩⟩
      case measure => exact step_meas hlt (by rw [HN.out]; exact HL.out)
    · have HE := Aside0.mk (show k = d.files.length from (Nat.le_antisymm hk (Nat.le_of_not_lt hlt)).trans HN.out)
      have kb : decide ((k : Int) < (n : Int)) = false := decide_eq_false (fun h => hlt (Int.ofNat_lt.1 h))
      go_wp2
      go_ret
      refine ⟨?_, HB.out⟩
      rw [HE.out, List.take_length]
      rfl
theorem lit_str (W : World) (o : Obj) (s : ByteArray) : Kd.C Kd.string ((W.alloc o).alloc (.cells #[.string s] 9)) (some ⟨W.heap.size + 1, 0, none⟩) 1 [s] := by
  refine ⟨rfl, by decide, fun _ => ⟨_, rfl, fun i p hp => ?_⟩⟩
  obtain rfl : i = 0 := by
    have := (List.getElem?_eq_some_iff.1 hp).1
    simp at this
    omega
  simp at hp
  subst hp
  refine ⟨[.string s], rfl, rfl, fun j u hj => ?_⟩
  have hb := blk_new (W.alloc o) (.cells #[.string s] 9)
  rw [show (W.alloc o).heap.size = W.heap.size + 1 by simp] at hb
  have hc := blk_cell hb j
  rw [Nat.zero_mul, Nat.zero_add, Addr.add_lit, Nat.zero_add, hc]
  have h2 : ([Value.string s] : List Value)[j]? = some u := hj
  simpa using h2
theorem infoS : (Try.prog.info? 9).map (fun i => (i.zero, i.size, i.bytes)) = some (some (.string ⟨#[]⟩), 1, 16) := by kernel_rfl
theorem nm_len {l : List Fl} {k : Nat} (hk : k ≤ l.length) (hl : l.length ≤ 4096) : (((l.take k).map Fl.name).length + 1) * 16 ≤ 140737488355328 := by
  rw [List.length_map, List.length_take]
  omega
theorem nm_step {l : List Fl} {k : Nat} (hk : k < l.length) : (l.take (k + 1)).map Fl.name = (l.take k).map Fl.name ++ [(l[k]'hk).name] := by
  rw [List.take_succ_eq_append_getElem hk, List.map_append]
  rfl
theorem Rs3 {e base : Nat} {W : World} {v : Value} {xs : List ByteArray} {ok : Nat → Prop} (h : Kd.R Kd.string e W base ok v xs) : ∃ A l c, v = .slice A l c := by
  obtain ⟨A, c, e⟩ := Kd.R_slice h
  exact ⟨A, _, c, e⟩
set_option maxHeartbeats 2000000 in
set_option maxRecDepth 100000 in
theorem RNames_Q (h : RefW S w g d v) (hl : d.files.length ≤ 4096) : Calls Try.prog 30 #[.pointer (some ⟨g, 0, none⟩)] w fun e w' => ∃ v1, e = .returned v1 ∧ Kd.R Kd.string 9 w' w.heap.size (fun _ => True) v1 (d.files.map Fl.name) ∧ Below w.heap.size w w' := by
  have z0 : w.cell? ⟨g, 0, none⟩ = some v := h.cell 0
  have hu75 := Try.underlying75
  obtain ⟨A, c, ev, hall⟩ := h.file
  subst ev
  have HAll := Aside0.mk hall
  have HL := Aside0.mk hl
  clear h hall hl
  obtain ⟨n, hn⟩ : ∃ n, n = d.files.length := ⟨_, rfl⟩
  have HN := Aside0.mk hn
  rw [← hn] at z0
  clear hn
  go_enter Try.func30, Try.ntmps30
  go_wp2
  go_loopw [3, 11] (fun o i wr => ∃ k : Nat, k ≤ n ∧ i = .int .i64 (k : Int) ∧ Aside0 (Kd.R Kd.string 9 wr w.heap.size (fun _ => True) o ((d.files.take k).map Fl.name)) ∧ Aside0 (Below w.heap.size w wr)) (fun _ i _ => n - (intOf i).toNat)
  case atStart => exact ⟨0, Nat.zero_le _, rfl, ⟨Kd.R_nil _ _ _ _ _⟩, ⟨Below.refl _ _⟩⟩
  case round =>
    obtain ⟨k, hk, rfl, HR, HB⟩ := hrel
    clear z0
    by_cases hlt : k < n
    · have kb : decide ((k : Int) < (n : Int)) = true := decide_eq_true (Int.ofNat_lt.2 hlt)
      obtain ⟨ad, rfl, y0, y1, y2⟩ := HAll.out k (by rw [← HN.out]; exact hlt)
      have x0 := pw_cell_below HB.out y0
      have x1 := pw_cell_below HB.out y1
      have x2 := pw_cell_below HB.out y2
      have HE := Aside0.mk (nm_step (l := d.files) (k := k) (by rw [← HN.out]; exact hlt))
      clear y0 y1 y2
      go_wp2_with (first
        | ((with_reducible refine gate_builtin (b := .append) (xs := #[.tmp 15, .tmp 18]) rfl ?_); (try (refine gate_guard (by rfl) ?_; dsimp only)); at_builtin; refine Kd.R_append_rows Kd.string (w0 := w) w.heap.size rfl (.tmp 15) (.tmp 18) 41 9 (.string ⟨#[]⟩) 16 rfl Try.underlying41 infoS rfl (by decide) (by omega) u3 ((d.files.take k).map Fl.name) [(d.files[k]'(by rw [← HN.out]; exact hlt)).name] _ 1 1 (fun _ => True) (fun _ => False) rfl rfl (Kd.R_alloc (Kd.R_alloc HR.out _) _) (lit_str wr _ (d.files[k]'(by rw [← HN.out]; exact hlt)).name) (fun _ _ h => h) (fun _ h => h.elim) (fun _ _ => trivial) (below_alloc (below_alloc HB.out _) _) (below_alloc (below_alloc HB.out _) _).size (nm_len (Nat.le_of_lt (by rw [← HN.out]; exact hlt)) HL.out) ?_; intro v1 w5 hr5 hb5 hg5 hat5; have HR5 := Aside0.mk hr5; have HB5 := Aside0.mk hb5; clear hr5 hb5 hg5 hat5))
      go_roundw
      case rel => exact ⟨k + 1, hlt, step_val hlt (by rw [HN.out]; exact HL.out), ⟨by rw [HE.out]; exact HR5.out⟩, ⟨HB5.out⟩⟩
      case measure => exact step_meas hlt (by rw [HN.out]; exact HL.out)
    · have HE := Aside0.mk (show k = d.files.length from (Nat.le_antisymm hk (Nat.le_of_not_lt hlt)).trans HN.out)
      have kb : decide ((k : Int) < (n : Int)) = false := decide_eq_false (fun h => hlt (Int.ofNat_lt.1 h))
      obtain ⟨A4, l4, c4, e4⟩ := Rs3 HR.out
      subst e4
      go_wp2
      go_ret
      refine ⟨_, rfl, ?_, HB.out⟩
      have h1 := HR.out
      rw [HE.out, List.take_length] at h1
      exact h1
theorem atI_some {l : List Fl} {s : ByteArray} {f : Fl} (h : findF l s = some f) : ∃ i : Nat, atI l s = (i : Int) ∧ ∃ hi : i < l.length, (l[i]'hi) = f := by
  unfold atI
  obtain ⟨hm, hn⟩ := findF_some h
  cases e : l.findIdx? (fun f => decide (f.name = s)) with
  | none => exact absurd (List.findIdx?_eq_none_iff.1 e f hm) (by simp [hn])
  | some i =>
    refine ⟨i, rfl, ?_⟩
    obtain ⟨hi, h1, h2⟩ := List.findIdx?_eq_some_iff_getElem.1 e
    refine ⟨hi, ?_⟩
    have h3 : l.find? (fun f => decide (f.name = s)) = some (l[i]'hi) := List.find?_eq_some_iff_getElem.2 ⟨h1, i, hi, rfl, fun j hj => by simpa using h2 j hj⟩
    unfold findF at h
    rw [h] at h3
    exact (Option.some.inj h3).symm
theorem atI_none {l : List Fl} {s : ByteArray} (h : findF l s = none) : atI l s = -1 := atI_no (fun i hi _ => findF_none h _ (List.getElem_mem hi))
theorem atI_neg (l : List Fl) (s : ByteArray) : decide (atI l s < 0) = !(findF l s).isSome := by
  cases e : findF l s with
  | none => rw [atI_none e]; rfl
  | some f =>
    obtain ⟨i, h, _⟩ := atI_some e
    rw [h]
    exact decide_eq_false (by omega)
set_option maxHeartbeats 2000000 in
set_option maxRecDepth 100000 in
theorem RMay_Q (h : RefW S w g d v) (s : ByteArray) (b : Bool) (hl : d.files.length ≤ 4096) : Calls Try.prog 50 #[.pointer (some ⟨g, 0, none⟩), .string s, .bool b] w fun e w' => e = .returned (.int .i64 (if b then d.there s else d.ready s)) ∧ Below w.heap.size w w' := by
  have z2 : w.cell? ⟨g, 2, none⟩ = some (.bool d.down) := h.cell 2
  have HG := Aside0.mk (Good_Q w s)
  have HA := Aside0.mk (fun nd => RAt_Q (h.below (pw_below_drewN (Below.refl _ _) nd)) s hl)
  have hneg := atI_neg d.files s
  clear h hl
  unfold DS.there DS.ready
  obtain ⟨dn, hd⟩ : ∃ b, b = d.down := ⟨_, rfl⟩
  obtain ⟨ok, hk⟩ : ∃ b, b = nameOk s := ⟨_, rfl⟩
  obtain ⟨fs, hf⟩ : ∃ b, b = (findF d.files s).isSome := ⟨_, rfl⟩
  obtain ⟨ai, ha⟩ : ∃ i, i = atI d.files s := ⟨_, rfl⟩
  rw [← hd] at z2 ⊢
  rw [← hk] at HG ⊢
  rw [← hf] at hneg ⊢
  rw [← ha] at hneg HA
  clear hd hk hf ha
  cases dn <;> cases ok <;> cases b <;> cases fs
  all_goals
    first | (have hneg2 : decide (ai < 0) = true := hneg) | (have hneg2 : decide (ai < 0) = false := hneg)
    clear hneg
    go_enter Try.func50, Try.ntmps50
    go_wp2_with (first
      | (go_at_call 59; refine HG.out.mono ?_; rintro e w2 ⟨rfl, ⟨nd, rfl⟩⟩)
      | (go_at_call 51; refine (HA.out _).mono ?_; rintro e w3 ⟨rfl, hb3⟩))
    go_ret
    first | exact ⟨by simp, Below.refl _ _⟩ | exact ⟨by simp, pw_below_drewN (Below.refl _ _) nd⟩ | exact ⟨by simp, (pw_below_drewN (Below.refl _ _) nd).trans hb3⟩
set_option maxHeartbeats 2000000 in
set_option maxRecDepth 100000 in
theorem RBegins_Q (h : RefW S w g d v) (hok : d.Ok) : Calls Try.prog 57 #[.pointer (some ⟨g, 0, none⟩)] w fun e w' => e = .returned (.tuple #[.bool (!d.goes || decide (0 < d.keep)), .bool d.goes]) ∧ RefW S w' g d.act v ∧ Only S w w' := by
  have HA := Aside0.mk (RAct_Q h hok)
  clear h
  obtain ⟨go, hg⟩ : ∃ b, b = d.goes := ⟨_, rfl⟩
  rw [← hg] at HA ⊢
  clear hg
  obtain ⟨kp, hk⟩ : ∃ b, b = decide (0 < d.keep) := ⟨_, rfl⟩
  have HK := Aside0.mk hk
  rw [← hk]
  clear hk
  cases go with
  | false =>
    go_enter Try.func57, Try.ntmps57
    go_wp2_with (first | (go_at_call 55; refine HA.out.mono ?_; rintro e w2 ⟨rfl, h2, o2⟩; have H2 := Aside0.mk h2; have O2 := Aside0.mk o2; clear h2 o2))
    go_ret2
    exact ⟨by simp, H2.out, O2.out⟩
  | true =>
    go_enter Try.func57, Try.ntmps57
    go_wp2_with (first | (go_at_call 55; refine HA.out.mono ?_; rintro e w2 ⟨rfl, h2, o2⟩; have z5 : w2.cell? ⟨g, 5, none⟩ = some (.int .i64 d.keep) := h2.cell 5; have H2 := Aside0.mk h2; have O2 := Aside0.mk o2; clear h2 o2))
    go_ret2
    exact ⟨by rw [HK.out]; simp, H2.out, O2.out⟩
end
end Go.Proofs.Ytoedkemjidgbeaa.Dk
/- The reference's device: the power goes. -/
namespace Go.Proofs.Ytoedkemjidgbeaa.Dk
open Go Go.RowKit Go.Proofs.YtoedkemjidgbeaaW.PrintWords Go.Proofs.YtoedkemjidgbeaaW.PrintLast Go.Proofs.YtoedkemjidgbeaaW.PrintMore Go.Proofs.YtoedkemjidgbeaaMy Go.Proofs.Ytoedkemjidgbeaa Go.Proofs.YtoedkemjidgbeaaPw Go.Proofs.Ytoedkemjidgbeaa.PAll
set_option linter.unusedVariables false
set_option linter.unusedSimpArgs false
theorem str_take2 {l : List Int} (h : ∀ x ∈ l, 0 ≤ x ∧ x ≤ 255) (n : Nat) : (strOfNums l).extract 0 n = strOfNums (l.take n) := by
  have hb : Byt l := fun x hx => by have := h x hx; omega
  apply bytes_inj
  rw [bytesOf_extract, bytes_str hb, bytes_str (byt_take hb n)]
  rfl
theorem cut_str {l : List Int} (hb : ∀ x ∈ l, 0 ≤ x ∧ x ≤ 255) {j : Nat} (hj : j ≤ l.length) {st s : ByteArray} (hs : st = strOfNums l) (he : s = strOfNums (l.take j)) : ∀ W : World, (Instr.slice 9 (.string st) none (some (.int .i64 (j : Int))) none).run Try.prog W = .ok (.string s) W := by
  intro W
  have h1 := run_slice_string_h (P := Try.prog) W 9 st Try.underlying9 .i64 (j : Int) (by omega) (by rw [hs, str_size2]; omega)
  rw [h1, Int.toNat_natCast, hs, str_take2 hb j, he]
theorem idx_str {l : List Int} (hb : ∀ x ∈ l, 0 ≤ x ∧ x ≤ 255) {j : Nat} (hj : j < l.length) {st : ByteArray} (hs : st = strOfNums l) : ∀ W : World, (Instr.index 9 (.string st) (.int .i64 (j : Int))).run Try.prog W = .ok (.int .u8 (l.getD j 0)) W := by
  intro W
  have hsz : (st.size : Int) = (l.length : Int) := by rw [hs, str_size2]
  rw [run_index_string (P := Try.prog) W 9 st .i64 (j : Int) Try.underlying9, dif_pos ⟨by omega, by omega⟩]
  subst hs
  have h1 := hb l[j] (List.getElem_mem hj)
  have e : ((strOfNums l)[(j : Int).toNat]'(by rw [Int.toNat_natCast, str_size2]; exact hj)).toNat = l[j].toNat := by
    have e2 := bytesOf_getD (strOfNums l) j
    rw [bytes_str (fun x hx => by have := hb x hx; omega), List.getD_eq_getElem?_getD, List.getElem?_eq_getElem hj] at e2
    simp only [Option.getD_some] at e2
    rw [bt, dif_pos (show ((j : Nat) : Int).toNat < (strOfNums l).size by rw [Int.toNat_natCast, str_size2]; exact hj)] at e2
    omega
  rw [e, List.getD_eq_getElem?_getD, List.getElem?_eq_getElem hj]
  congr 2
  simp only [Option.getD_some]
  omega
theorem sizes_mem {l : List Fl} {f : Fl} (hf : f ∈ l) : (f.b.length : Int) ≤ sizes l := by
  induction l with
  | nil => cases hf
  | cons x r ih =>
    rw [sizes_cons]
    have h0 := sizes_nonneg r
    rcases List.mem_cons.1 hf with rfl | hm
    · omega
    · have := ih hm
      omega
theorem size_le2 {l : List Fl} {f : Fl} (hf : f ∈ l) {r : Int} (h1 : sizes l ≤ r) (h2 : r ≤ 1048576) : f.b.length ≤ 1048576 := by
  have := sizes_mem hf
  omega
/-- Safe bytes are bytes. -/
def SafeL (l : List Fl) : Prop := ∀ f ∈ l, f.safe ≤ f.b.length
theorem kept_room {keep : Int} {f : Fl} (h : f.safe ≤ f.b.length) : f.safe + kept keep f ≤ f.b.length := by unfold kept; omega
theorem kept_more {keep : Int} {f : Fl} {j m p bl : Nat} (hm : m = kept keep f) (hp : p = f.safe + j) (hbl : bl = f.b.length) (h : j < m) : decide ((j : Int) < keep) = true ∧ decide (p < bl) = true := by
  unfold kept at hm
  exact ⟨decide_eq_true (by omega), decide_eq_true (by omega)⟩
theorem kept_end {keep : Int} {f : Fl} {j m p bl : Nat} (hm : m = kept keep f) (hp : p = f.safe + j) (hbl : bl = f.b.length) (hs : f.safe ≤ f.b.length) (h : j = m) : decide ((j : Int) < keep) = false ∨ decide ((j : Int) < keep) = true ∧ decide (p < bl) = false := by
  unfold kept at hm
  by_cases c : (j : Int) < keep
  · exact .inr ⟨decide_eq_true c, decide_eq_false (by omega)⟩
  · exact .inl (decide_eq_false c)
theorem turn_eq {l : List Int} {m : Nat} (h : m + 1 = l.length) : turnLast l = l.take m ++ [255 - l.getD m 0] := by
  unfold turnLast
  rw [show l.length - 1 = m by omega, List.set_eq_take_append_cons_drop, if_pos (by omega), List.drop_eq_nil_of_le (by omega)]
theorem lost_pos {keep : Int} {f : Fl} (hk : 0 < kept keep f) : loseB keep true f = turnLast (f.b.take (f.safe + kept keep f)) := by unfold loseB; rw [if_pos ⟨rfl, hk⟩]
theorem lost_neg {keep : Int} {torn : Bool} {f : Fl} (hk : ¬ (torn = true ∧ 0 < kept keep f)) : loseB keep torn f = f.b.take (f.safe + kept keep f) := by unfold loseB; rw [if_neg hk]
theorem decide_nat (m : Nat) : decide ((0 : Int) < (m : Int)) = decide (0 < m) := decide_eq_decide.2 (by omega)
theorem lost_sv1 {keep : Int} {torn : Bool} {f : Fl} {j m p : Nat} {s1 : ByteArray} (hs : f.safe ≤ f.b.length) (hm : m = kept keep f) (hp : p = f.safe + j) (hj : j = m) (h1 : s1 = strOfNums (f.b.take p)) (hn : ¬ (torn = true ∧ 0 < m)) : sv (lose1 keep torn f) = ⟨f.name, s1, (p : Int)⟩ := by
  have h := kept_room (keep := keep) hs
  subst hm
  unfold lose1 sv
  rw [lost_neg hn, h1, hp, hj, List.length_take, Nat.min_eq_left h]
theorem getD_byte {l : List Int} (h : ∀ x ∈ l, 0 ≤ x ∧ x ≤ 255) (r : Nat) : 0 ≤ l.getD r 0 ∧ l.getD r 0 ≤ 255 := by
  rw [List.getD_eq_getElem?_getD]
  cases e : l[r]? with
  | none => exact ⟨Int.le_refl _, by decide⟩
  | some x => exact h x (List.mem_of_getElem? e)
theorem sub_one_w {r p : Nat} (h : r + 1 = p) (hp : p ≤ 1048576) : wrap64 ((p : Int) - 1) = (r : Int) := by rw [w64 (by omega) (by omega)]; omega
theorem lost_sv2 {keep : Int} {f : Fl} {j m p r : Nat} {s3 : ByteArray} {F : List Int} {y : Int} (hs : f.safe ≤ f.b.length) (hm : m = kept keep f) (hp : p = f.safe + j) (hj : j = m) (hj0 : 0 < j) (hF : F = f.b.take p) (hr : r + 1 = p) (hy : y = F.getD r 0) (h3 : s3 = strOfNums (F.take r ++ [255 - y])) : sv (lose1 keep true f) = ⟨f.name, s3, (p : Int)⟩ := by
  have h := kept_room (keep := keep) hs
  have hl : F.length = p := by rw [hF, List.length_take, Nat.min_eq_left (by omega)]
  have e : loseB keep true f = F.take r ++ [255 - y] := by
    rw [lost_pos (by omega), show f.safe + kept keep f = p by omega, ← hF, turn_eq (m := r) (by omega), hy]
  unfold lose1 sv
  rw [e, h3, List.length_append, List.length_take, Nat.min_eq_left (by omega)]
  have : (((r + [255 - y].length : Nat)) : Int) = (p : Int) := by simp; omega
  rw [this]
set_option maxRecDepth 10000 in
theorem nat_xor : ∀ a : Fin 256, (255 ^^^ a.val : Nat) = 255 - a.val := by decide
theorem not_byte {y : Int} (h : 0 ≤ y ∧ y ≤ 255) : bits .xor .u8 255 y = 255 - y := by
  rw [u8_xor 255 y (by decide) (by decide) h.1 (by omega)]
  have h2 := nat_xor ⟨y.toNat, by omega⟩
  simp only at h2
  rw [show (255 : Int).toNat = 255 from rfl, h2]
  omega
theorem one_C (W : World) (y : Int) : bK.C (W.alloc (.cells #[.int .u8 y] 5 (0, 0))) (some ⟨W.heap.size, 0, none⟩) 1 [y] := by
  refine ⟨rfl, by decide, fun _ => ⟨_, rfl, fun i p hp => ?_⟩⟩
  obtain rfl : i = 0 := by
    have := (List.getElem?_eq_some_iff.1 hp).1
    simp at this
    omega
  simp at hp
  subst hp
  refine ⟨[.int .u8 y], rfl, rfl, fun j u hj => ?_⟩
  have hc := blk_cell (blk_new W (.cells #[.int .u8 y] 5 (0, 0))) j
  rw [Nat.zero_mul, Nat.zero_add, Addr.add_lit, Nat.zero_add, hc]
  have h2 : ([Value.int .u8 y] : List Value)[j]? = some u := hj
  simpa using h2
theorem one_conv {wr : World} {o : Obj} {z y : Int} (hz : z = y) : (convert 22 9 (.slice (some ⟨wr.heap.size + 1, 0, none⟩) 1 1)).run Try.prog (((wr.alloc o).alloc (.cells #[.int .u8 z] 5 (0, 0))).drew) = .ok (.string (strOfNums [y])) (((wr.alloc o).alloc (.cells #[.int .u8 z] 5 (0, 0))).drew) := by
  subst hz
  refine str_C (C_below (W := (wr.alloc o).alloc (.cells #[.int .u8 z] 5 (0, 0))) ?_ (below_drew1 (Below.refl _ _)))
  have h := one_C (wr.alloc o) z
  rw [show (wr.alloc o).heap.size = wr.heap.size + 1 by simp] at h
  exact h
theorem one75x {W : World} {n : Nat} (h : W.heap.size = n) (x : S75) : ReadsRow (k75.K (W.alloc (fileLit x))) k75.sz (W.alloc (fileLit x)) (some ⟨n, 0, none⟩) 1 [x] := by
  subst h
  exact one75a W x
theorem lost_step {l : List Fl} {keep : Int} {torn : Bool} {k : Nat} (hk : k < l.length) : (l.take (k + 1)).map (lose1 keep torn) = (l.take k).map (lose1 keep torn) ++ [lose1 keep torn (l[k]'hk)] := by
  rw [List.take_succ_eq_append_getElem hk, List.map_append]
  rfl
theorem lost_len {l : List Fl} {keep : Int} {torn : Bool} {k : Nat} (hk : k ≤ l.length) (hl : l.length ≤ 4096) : ((((l.take k).map (lose1 keep torn)).map sv).length + 1) * 40 ≤ 140737488355328 := by
  rw [List.length_map, List.length_map, List.length_take]
  omega
theorem keep_w {keep : Int} {f : Fl} {j m p : Nat} (hs : f.safe ≤ f.b.length) (hl : f.b.length ≤ 1048576) (hm : m = kept keep f) (hj : j ≤ m) (hp : p = f.safe + j) : wrap64 ((f.safe : Int) + (j : Int)) = (p : Int) := by
  unfold kept at hm
  rw [w64 (by omega) (by omega)]
  omega
theorem kept_small {keep : Int} {f : Fl} {m : Nat} (hm : m = kept keep f) (hs : f.safe ≤ f.b.length) (hl : f.b.length ≤ 1048576) : m ≤ 1048576 := by
  unfold kept at hm
  omega
theorem step_val20 {j m : Nat} (h : j < m) (hm : m ≤ 1048576) : Value.int .i64 (wrap64 ((j : Int) + 1)) = Value.int .i64 ((j + 1 : Nat) : Int) := by
  rw [w64 (by omega) (by omega)]
  rfl
theorem step_meas20 {j m : Nat} (h : j < m) (hm : m ≤ 1048576) : m - (intOf (Value.int .i64 (wrap64 ((j : Int) + 1)))).toNat < m - (intOf (Value.int .i64 (j : Int))).toNat := by
  rw [w64 (by omega) (by omega)]
  simp only [intOf]
  omega
section
variable {S S1 : Nat → Prop} {W W1 w : World} {g : Nat} {d : DS} {v v1 : Value}
set_option maxHeartbeats 2000000 in
set_option maxRecDepth 100000 in
theorem RLose_Q (h : RefW S w g d v) (hf : d.Fit) (hs : SafeL d.files) (keep : Int) (torn : Bool) (hl : d.files.length ≤ 4096) : Calls Try.prog 48 #[.pointer (some ⟨g, 0, none⟩), .int .i64 keep, .bool torn] w fun e w' => e = .returned (.tuple #[]) ∧ RefAt (Grow S w) w' g (d.off keep torn) ∧ Only S w w' := by
  have z0 : w.cell? ⟨g, 0, none⟩ = some v := h.cell 0
  have z2 : w.cell? ⟨g, 2, none⟩ = some (.bool d.down) := h.cell 2
  have hu75 := Try.underlying75
  obtain ⟨A, c, ev, hall⟩ := h.file
  have HW := Aside0.mk h
  subst ev
  have HAll := Aside0.mk hall
  have HL := Aside0.mk hl
  have HF := Aside0.mk hf
  have HS := Aside0.mk hs
  clear h hall hl hf hs
  obtain ⟨n, hn⟩ : ∃ n, n = d.files.length := ⟨_, rfl⟩
  have HN := Aside0.mk hn
  rw [← hn] at z0
  clear hn
  obtain ⟨dn, hd⟩ : ∃ b, b = d.down := ⟨_, rfl⟩
  have HD := Aside0.mk hd
  rw [← hd] at z2
  clear hd
  cases dn with
  | true =>
    go_enter Try.func48, Try.ntmps48
    go_wp2
    (try simp only [Exit.inBlock, Exit.then]); refine bodyPost_ret (results_none rfl _ _ _) rfl ?_
    unfold DS.off
    rw [if_pos HD.out.symm]
    exact ⟨rfl, ⟨_, (HW.out.mono (fun _ h => .inl h))⟩, Only.refl _ _⟩
  | false =>
    go_enter Try.func48, Try.ntmps48
    go_wp2
    go_loopw [6, 20] (fun o i wr => ∃ k : Nat, k ≤ n ∧ i = .int .i64 (k : Int) ∧ Aside0 (Kd.R k75 75 wr w.heap.size (fun _ => True) o (((d.files.take k).map (lose1 keep torn)).map sv)) ∧ Aside0 (Below w.heap.size w wr)) (fun _ i _ => n - (intOf i).toNat)
    case atStart => exact ⟨0, Nat.zero_le _, rfl, ⟨Kd.R_nil _ _ _ _ _⟩, ⟨Below.refl _ _⟩⟩
    case round =>
      obtain ⟨k, hk, rfl, HR, HB⟩ := hrel
      clear z0 z2
      by_cases hlt : k < n
      · have kb : decide ((k : Int) < (n : Int)) = true := decide_eq_true (Int.ofNat_lt.2 hlt)
        obtain ⟨ad, rfl, y0, y1, y2⟩ := HAll.out k (by rw [← HN.out]; exact hlt)
        have x0 := pw_cell_below HB.out y0
        have x1 := pw_cell_below HB.out y1
        have x2 := pw_cell_below HB.out y2
        clear y0 y1 y2
        have hkd : k < d.files.length := by rw [← HN.out]; exact hlt
        have HStep := Aside0.mk (lost_step (l := d.files) (keep := keep) (torn := torn) hkd)
        have hmem : d.files[k]'hkd ∈ d.files := List.getElem_mem hkd
        obtain ⟨f, hfk⟩ : ∃ f, f = d.files[k]'hkd := ⟨_, rfl⟩
        rw [← hfk] at x0 x1 x2 HStep hmem
        have HFb := Aside0.mk (HF.out.bytes f hmem)
        have HFs := Aside0.mk (HS.out f hmem)
        have HFl := Aside0.mk (show f.b.length ≤ 1048576 from size_le2 hmem HF.out.fits HF.out.room)
        clear hfk hmem hkd
        obtain ⟨bt, hbt⟩ : ∃ b, b = strOfNums f.b := ⟨_, rfl⟩
        obtain ⟨bl, hbl⟩ : ∃ b, b = f.b.length := ⟨_, rfl⟩
        have hsz : bt.size = bl := by rw [hbt, hbl, str_size2]
        rw [← hbt] at x1
        have HBt := Aside0.mk hbt
        have HBl := Aside0.mk hbl
        obtain ⟨m, hm⟩ : ∃ m, m = kept keep f := ⟨_, rfl⟩
        have HM := Aside0.mk hm
        clear hbt hbl hm
        go_wp2
        go_loopw [9] (fun i w2 => ∃ j : Nat, j ≤ m ∧ i = .int .i64 (j : Int) ∧ w2 = wr.alloc (.cells #[.string f.name, .string bt, .int .i64 (f.safe : Int)] 75 (0, 0))) (fun i _ => m - (intOf i).toNat)
        case atStart => exact ⟨0, Nat.zero_le _, rfl, rfl⟩
        case round =>
          obtain ⟨j, hj, rfl, rfl⟩ := hrel
          obtain ⟨p, hp⟩ : ∃ p, p = f.safe + j := ⟨_, rfl⟩
          have HP := Aside0.mk hp
          have hw1 := keep_w HFs.out HFl.out HM.out hj hp
          by_cases hlt2 : j < m
          · obtain ⟨q1, q2⟩ := kept_more HM.out hp HBl.out hlt2
            clear hp
            go_wp2
            go_roundw
            case rel => exact ⟨j + 1, hlt2, step_val20 hlt2 (kept_small HM.out HFs.out HFl.out), trivial⟩
            case measure => exact step_meas20 hlt2 (kept_small HM.out HFs.out HFl.out)
          · have hjm : j = m := Nat.le_antisymm hj (Nat.le_of_not_lt hlt2)
            have HJm := Aside0.mk hjm
            have hc := kept_end HM.out hp HBl.out HFs.out hjm
            obtain ⟨s1, hs1⟩ : ∃ s, s = strOfNums (f.b.take p) := ⟨_, rfl⟩
            have hcut := cut_str HFb.out (j := p) (by rw [hp, hjm, HM.out]; exact kept_room HFs.out) HBt.out hs1
            have hsz1 : s1.size = p := by rw [hs1, str_size2, List.length_take, Nat.min_eq_left (by rw [hp, hjm, HM.out]; exact kept_room HFs.out)]
            have HS1 := Aside0.mk hs1
            clear hs1 hjm hp
            by_cases hpos : torn = true ∧ 0 < j
            · obtain ⟨rfl, hm0⟩ := hpos
              have g1 : decide (0 < j) = true := decide_eq_true hm0
              have g2 : decide ((0 : Int) < (j : Int)) = true := decide_eq_true (Int.ofNat_lt.2 hm0)
              obtain ⟨r, hr⟩ : ∃ r, r + 1 = p := ⟨p - 1, by rw [HP.out]; omega⟩
              have HRp := Aside0.mk hr
              obtain ⟨F, hF⟩ : ∃ F, F = f.b.take p := ⟨_, rfl⟩
              have hFl : F.length = p := by rw [hF, List.length_take, Nat.min_eq_left (by rw [HP.out, HJm.out, HM.out]; exact kept_room HFs.out)]
              have hFb : ∀ x ∈ F, 0 ≤ x ∧ x ≤ 255 := fun x hx => HFb.out x (List.mem_of_mem_take (by rw [← hF]; exact hx))
              obtain ⟨s2, hs2⟩ : ∃ s, s = strOfNums (F.take r) := ⟨_, rfl⟩
              have hs1F : s1 = strOfNums F := by rw [HS1.out, hF]
              have hcut2 := cut_str hFb (j := r) (by omega) hs1F hs2
              obtain ⟨y, hy⟩ : ∃ y, y = F.getD r 0 := ⟨_, rfl⟩
              have hidx := idx_str hFb (j := r) (by omega) hs1F
              rw [← hy] at hidx
              have hyb := getD_byte hFb r
              rw [← hy] at hyb
              have hwr := sub_one_w hr (by rw [HP.out, HJm.out, HM.out]; exact Nat.le_trans (kept_room HFs.out) HFl.out)
              have hxor := not_byte hyb
              have hcv := one_conv (wr := wr) (o := .cells #[.string f.name, .string bt, .int .i64 (f.safe : Int)] 75 (0, 0)) (z := bits BinOp.xor IntKind.u8 (if IntKind.u8.signed = true then -1 else IntKind.u8.max) y) (y := 255 - y) hxor
              obtain ⟨s3, hs3⟩ : ∃ s, s = s2 ++ strOfNums [255 - y] := ⟨_, rfl⟩
              have hs3z : s3.size = p := by rw [hs3, hs2, ByteArray.size_append, str_size2, str_size2, List.length_take, Nat.min_eq_left (by omega)]; exact hr
              have HEq := Aside0.mk (show sv (lose1 keep true f) = ⟨f.name, s3, (p : Int)⟩ from lost_sv2 HFs.out HM.out HP.out HJm.out hm0 hF hr hy (by rw [hs3, hs2, strOfNums_append]))
              have HS3 := Aside0.mk hs3
              rw [← hs3.symm] at hs3
              have hcat := HS3.out.symm
              have hadd : (s2.size : Int) + ((strOfNums [255 - y]).size : Int) ≤ 9223372036854775807 := by
                rw [hs2, str_size2, str_size2, List.length_take, Nat.min_eq_left (by omega)]
                have := HRp.out
                have : p ≤ 1048576 := by rw [HP.out, HJm.out, HM.out]; exact Nat.le_trans (kept_room HFs.out) HFl.out
                have : [255 - y].length = 1 := rfl
                omega
              clear hF hFl hFb hs2 hs1F hy hyb hs3 hr
              rcases hc with q1 | ⟨q1, q2⟩
              all_goals
                go_wp2
                go_region
                have HBx := Aside0.mk (show Below w.heap.size w (((wr.alloc (.cells #[.string f.name, .string bt, .int .i64 (f.safe : Int)] 75 (0, 0))).alloc (.cells #[.int .u8 (bits BinOp.xor IntKind.u8 (if IntKind.u8.signed = true then -1 else IntKind.u8.max) y)] 5 (0, 0))).drew) from below_drew1 (below_alloc (below_alloc HB.out _) _))
                have HRx := Aside0.mk (Kd.R_drew (Kd.R_alloc (Kd.R_alloc HR.out (.cells #[.string f.name, .string bt, .int .i64 (f.safe : Int)] 75 (0, 0))) (.cells #[.int .u8 (bits BinOp.xor IntKind.u8 (if IntKind.u8.signed = true then -1 else IntKind.u8.max) y)] 5 (0, 0))))
                have HSx := Aside0.mk (show (((wr.alloc (.cells #[.string f.name, .string bt, .int .i64 (f.safe : Int)] 75 (0, 0))).alloc (.cells #[.int .u8 (bits BinOp.xor IntKind.u8 (if IntKind.u8.signed = true then -1 else IntKind.u8.max) y)] 5 (0, 0))).drew).heap.size = wr.heap.size + 2 by simp)
                go_wp2_with (first
                  | ((with_reducible refine gate_builtin (b := .append) (xs := #[.tmp 65, .tmp 72]) rfl ?_); (try (refine gate_guard (by rfl) ?_; dsimp only)); at_builtin; refine Kd.R_append_rows k75 (w0 := w) w.heap.size rfl (.tmp 65) (.tmp 72) 54 75 (.agg #[.string ⟨#[]⟩, .string ⟨#[]⟩, .int .i64 0]) 40 rfl Try.underlying54 infoF rfl (by decide) (by omega) u6 (((d.files.take k).map (lose1 keep true)).map sv) [⟨f.name, s3, (p : Int)⟩] _ 1 1 (fun _ => True) (fun _ => False) rfl rfl (Kd.R_alloc HRx.out _) (one75x HSx.out ⟨f.name, s3, (p : Int)⟩) (K_M _) (fun _ h => h.elim) (fun _ _ => trivial) (below_alloc HBx.out _) (below_alloc HBx.out _).size (lost_len (Nat.le_of_lt (by rw [← HN.out]; exact hlt)) HL.out) ?_; intro v1 w5 hr5 hb5 hg5 hat5; have HR5 := Aside0.mk hr5; have HB5 := Aside0.mk hb5; clear hr5 hb5 hg5 hat5))
                go_roundw
                case rel => exact ⟨k + 1, hlt, step_val hlt (by rw [HN.out]; exact HL.out), ⟨by rw [HStep.out, List.map_append, List.map_singleton, HEq.out]; exact HR5.out⟩, ⟨HB5.out⟩⟩
                case measure => exact step_meas hlt (by rw [HN.out]; exact HL.out)
            · have HPos := Aside0.mk hpos
              have HEq := Aside0.mk (show sv (lose1 keep torn f) = ⟨f.name, s1, (p : Int)⟩ from lost_sv1 HFs.out HM.out HP.out HJm.out HS1.out (by rw [← HJm.out]; exact hpos))
              obtain ⟨dm, hdm⟩ : ∃ b, b = decide (0 < j) := ⟨_, rfl⟩
              have g2 : decide ((0 : Int) < (j : Int)) = dm := by rw [hdm]; exact decide_nat j
              have g1 : decide (0 < j) = dm := hdm.symm
              have HDm := Aside0.mk hdm
              clear hdm hpos
              cases torn <;> cases dm
              case true.true => exact absurd ⟨rfl, of_decide_eq_true HDm.out.symm⟩ HPos.out
              all_goals
                rcases hc with q1 | ⟨q1, q2⟩
                all_goals
                  go_wp2_with (first
                    | ((with_reducible refine gate_builtin (b := .append) (xs := #[.tmp 65, .tmp 72]) rfl ?_); (try (refine gate_guard (by rfl) ?_; dsimp only)); at_builtin; refine Kd.R_append_rows k75 (w0 := w) w.heap.size rfl (.tmp 65) (.tmp 72) 54 75 (.agg #[.string ⟨#[]⟩, .string ⟨#[]⟩, .int .i64 0]) 40 rfl Try.underlying54 infoF rfl (by decide) (by omega) u6 (((d.files.take k).map (lose1 keep _)).map sv) [⟨f.name, s1, (p : Int)⟩] _ 1 1 (fun _ => True) (fun _ => False) rfl rfl (Kd.R_alloc (Kd.R_alloc HR.out _) _) (one75b wr _ ⟨f.name, s1, (p : Int)⟩) (K_M _) (fun _ h => h.elim) (fun _ _ => trivial) (below_alloc (below_alloc HB.out _) _) (below_alloc (below_alloc HB.out _) _).size (lost_len (Nat.le_of_lt (by rw [← HN.out]; exact hlt)) HL.out) ?_; intro v1 w5 hr5 hb5 hg5 hat5; have HR5 := Aside0.mk hr5; have HB5 := Aside0.mk hb5; clear hr5 hb5 hg5 hat5))
                  go_roundw
                  case rel => exact ⟨k + 1, hlt, step_val hlt (by rw [HN.out]; exact HL.out), ⟨by rw [HStep.out, List.map_append, List.map_singleton, HEq.out]; exact HR5.out⟩, ⟨HB5.out⟩⟩
                  case measure => exact step_meas hlt (by rw [HN.out]; exact HL.out)
      · have HE := Aside0.mk (show k = d.files.length from (Nat.le_antisymm hk (Nat.le_of_not_lt hlt)).trans HN.out)
        have kb : decide ((k : Int) < (n : Int)) = false := decide_eq_false (fun h => hlt (Int.ofNat_lt.1 h))
        have zg := HW.out.below HB.out
        have z0r : wr.cell? ⟨g, 0, none⟩ = some (.slice A n c) := by have := zg.cell 0; rw [HN.out]; exact this
        have z2r : wr.cell? ⟨g, 2, none⟩ = some (.bool false) := by have := zg.cell 2; rw [HD.out]; exact this
        have z4r : wr.cell? ⟨g, 4, none⟩ = some (.int .i64 d.fuse) := zg.cell 4
        have f0r := zg.frozen 0
        have f2r := zg.frozen 2
        have f4r := zg.frozen 4
        have h1 := HW.out.newFiles (fs := d.files.map (lose1 keep torn)) HB.out (by have := HR.out; rw [HE.out, List.take_length] at this; exact this)
        have h2 := h1.1.set_ { d with files := d.files.map (lose1 keep torn), down := true } 2 (.bool true) rfl rfl
        have HEnd := Aside0.mk (h2.set_ { d with files := d.files.map (lose1 keep torn), down := true, fuse := 0 } 4 (.int .i64 0) rfl rfl)
        have HOnly := Aside0.mk ((h1.2.setCell (g := g) (j := 2) (.inl HW.out.sg) (.bool true)).setCell (g := g) (j := 4) (.inl HW.out.sg) (.int .i64 0))
        obtain ⟨A4, l4, c4, e4⟩ := R75_3 HR.out
        subst e4
        clear zg h1 h2
        go_wp2
        go_end0
        have hoff : d.off keep torn = { d with files := d.files.map (lose1 keep torn), down := true, fuse := 0 } := by
          unfold DS.off
          rw [if_neg (by rw [← HD.out]; decide)]
        rw [hoff]
        exact ⟨rfl, HEnd.out.at, HOnly.out⟩
end
end Go.Proofs.Ytoedkemjidgbeaa.Dk
/- The reference's device: New, ends, Remove, Sync. -/
namespace Go.Proofs.Ytoedkemjidgbeaa.Dk
open Go Go.RowKit Go.Proofs.YtoedkemjidgbeaaW.PrintWords Go.Proofs.YtoedkemjidgbeaaW.PrintLast Go.Proofs.YtoedkemjidgbeaaW.PrintMore Go.Proofs.YtoedkemjidgbeaaMy Go.Proofs.Ytoedkemjidgbeaa Go.Proofs.YtoedkemjidgbeaaPw Go.Proofs.Ytoedkemjidgbeaa.PAll
set_option linter.unusedVariables false
set_option linter.unusedSimpArgs false
section
variable {S S1 : Nat → Prop} {W W1 w : World} {g : Nat} {d : DS} {v v1 : Value}
theorem RefAt.grow (h : RefAt S w g d) : RefAt (Grow S W) w g d := by
  obtain ⟨v, h⟩ := h
  exact ⟨v, h.mono (fun _ h => .inl h)⟩
set_option maxHeartbeats 2000000 in
set_option maxRecDepth 100000 in
theorem REnds_Q (h : RefW S w g d v) (hf : d.Fit) (hs : SafeL d.files) (go : Bool) (hl : d.files.length ≤ 4096) : Calls Try.prog 58 #[.pointer (some ⟨g, 0, none⟩), .bool go] w fun e w' => e = .returned (.int .i64 (if go then 7 else 0)) ∧ RefAt (Grow S w) w' g (if go then d.ends else d) ∧ Only S w w' := by
  have z5 : w.cell? ⟨g, 5, none⟩ = some (.int .i64 d.keep) := h.cell 5
  have z6 : w.cell? ⟨g, 6, none⟩ = some (.bool d.torn) := h.cell 6
  have HL := Aside0.mk (RLose_Q (h.below (W1 := w.drew) (below_drew1 (Below.refl _ _))) hf hs d.keep d.torn hl)
  have HW := Aside0.mk h
  unfold DS.ends
  clear h hf hs hl
  cases go with
  | false =>
    go_enter Try.func58, Try.ntmps58
    go_wp2
    go_ret
    exact ⟨by simp, (HW.out.at).grow, Only.refl _ _⟩
  | true =>
    go_enter Try.func58, Try.ntmps58
    go_wp2
    refine start_ (n := 10) (S := fun w' => w'.cell? ⟨g, 5, none⟩ = some (.int .i64 d.keep) ∧ w'.cell? ⟨g, 6, none⟩ = some (.bool d.torn)) (ds := [9]) #[false, false, false, false, false, false, false, false, false, false] (by kernel_rfl) rfl rfl ⟨z5, z6⟩ (fun hHeld => ?_)
    refine pure_ (i := 0) (N := some 6) (v := ?_) (a' := ?_) #[true, false, false, false, false, false, false, false, false, false] rfl rfl (by kernel_rfl) (fun _ _ _ h => h) (Or.inl ⟨by rfl, ?_⟩) ?_ ?_
    rotate_left
    · intro w'
      go_simp
      with_reducible rfl
    rotate_left
    · simp only [Act.put, List.setIfInBounds_toArray, List.set_cons_zero, List.set_cons_succ, i64_w, i32_w]
      rfl
    refine pure_ (i := 1) (N := some 7) (v := ?_) (a' := ?_) #[true, true, false, false, false, false, false, false, false, false] rfl rfl (by kernel_rfl) (fun _ _ _ h => h) (Or.inl ⟨by rfl, ?_⟩) ?_ ?_
    rotate_left
    · intro w'
      go_simp
      with_reducible rfl
    rotate_left
    · simp only [Act.put, List.setIfInBounds_toArray, List.set_cons_zero, List.set_cons_succ, i64_w, i32_w]
      rfl
    refine pure_ (i := 2) (N := some 8) (v := ?_) (a' := ?_) #[true, true, true, false, false, false, false, false, false, false] rfl rfl (by kernel_rfl) (fun _ _ _ h => h) (Or.inl ⟨by rfl, ?_⟩) ?_ ?_
    rotate_left
    · intro w'
      go_simp
      with_reducible rfl
    rotate_left
    · simp only [Act.put, List.setIfInBounds_toArray, List.set_cons_zero, List.set_cons_succ, i64_w, i32_w]
      rfl
    refine pure_ (i := 3) (N := some 9) (v := ?_) (a' := ?_) #[true, true, true, true, false, false, false, false, false, false] rfl rfl (by kernel_rfl) (fun _ _ _ h => h) (Or.inl ⟨by rfl, ?_⟩) ?_ ?_
    rotate_left
    · intro w'
      go_simp
      with_reducible rfl
    rotate_left
    · simp only [Act.put, List.setIfInBounds_toArray, List.set_cons_zero, List.set_cons_succ, i64_w, i32_w]
      rfl
    refine take_ (i := 4) (N := some 10) (v := ?_) (a' := ?_) #[true, true, true, true, true, false, false, false, false, false] rfl rfl (by kernel_rfl) (fun _ _ _ h => h) (Or.inl ⟨by rfl, ?_⟩) hHeld ?_ ?_
    rotate_left
    · intro w' s0
      obtain ⟨y0, y1⟩ := s0
      go_simp
      with_reducible rfl
    rotate_left
    · simp only [Act.put, List.setIfInBounds_toArray, List.set_cons_zero, List.set_cons_succ, i64_w, i32_w]
      rfl
    refine pure_ (i := 5) (N := some 11) (v := ?_) (a' := ?_) #[true, true, true, true, true, true, false, false, false, false] rfl rfl (by kernel_rfl) (fun _ _ _ h => h) (Or.inl ⟨by rfl, ?_⟩) ?_ ?_
    rotate_left
    · intro w'
      go_simp
      with_reducible rfl
    rotate_left
    · simp only [Act.put, List.setIfInBounds_toArray, List.set_cons_zero, List.set_cons_succ, i64_w, i32_w]
      rfl
    refine pure_ (i := 6) (N := some 12) (v := ?_) (a' := ?_) #[true, true, true, true, true, true, true, false, false, false] rfl rfl (by kernel_rfl) (fun _ _ _ h => h) (Or.inl ⟨by rfl, ?_⟩) ?_ ?_
    rotate_left
    · intro w'
      go_simp
      with_reducible rfl
    rotate_left
    · simp only [Act.put, List.setIfInBounds_toArray, List.set_cons_zero, List.set_cons_succ, i64_w, i32_w]
      rfl
    refine pure_ (i := 7) (N := some 13) (v := ?_) (a' := ?_) #[true, true, true, true, true, true, true, true, false, false] rfl rfl (by kernel_rfl) (fun _ _ _ h => h) (Or.inl ⟨by rfl, ?_⟩) ?_ ?_
    rotate_left
    · intro w'
      go_simp
      with_reducible rfl
    rotate_left
    · simp only [Act.put, List.setIfInBounds_toArray, List.set_cons_zero, List.set_cons_succ, i64_w, i32_w]
      rfl
    refine take_ (i := 8) (N := some 14) (v := ?_) (a' := ?_) #[true, true, true, true, true, true, true, true, true, false] rfl rfl (by kernel_rfl) (fun _ _ _ h => h) (Or.inl ⟨by rfl, ?_⟩) hHeld ?_ ?_
    rotate_left
    · intro w' s0
      obtain ⟨y0, y1⟩ := s0
      go_simp
      with_reducible rfl
    rotate_left
    · simp only [Act.put, List.setIfInBounds_toArray, List.set_cons_zero, List.set_cons_succ, i64_w, i32_w]
      rfl
    refine last_ (i := 9) (N := some 15) #[true, true, true, true, true, true, true, true, true, true] rfl rfl (by kernel_rfl) (by decide) (fun K hK => ?_)
    refine goes_ Try.func48 (by kernel_rfl) rfl #[.pointer (some ⟨g, 0, none⟩), .int .i64 d.keep, .bool d.torn] (by rfl) rfl rfl (by (try simp only [List.map_toArray, List.map_cons, List.map_nil]); first | done | rfl) ?_
    refine (HL.out).mono ?_
    rintro e wo ⟨rfl, hDo, hOo⟩
    refine ⟨_, rfl, ?_⟩
    have HDo := Aside0.mk hDo
    have HOo := Aside0.mk hOo
    clear hDo hOo
    refine hK.out _ _ ?_
    clear hK K
    refine done_ (by kernel_rfl) ?_
    go_wp2
    go_ret
    exact ⟨by simp, HDo.out, (((Only.refl S w).below (below_drew1 (Below.refl _ _))).trans HOo.out)⟩
/-- What the reference's device keeps to. -/
structure DS.RG (d : DS) : Prop where
  fit : d.Fit
  safe : SafeL d.files
  len : d.files.length ≤ 4096
theorem DS.RG.act (h : d.RG) : d.act.RG := ⟨h.fit.act, h.safe, h.len⟩
theorem RefAt.less {w2 : World} (h : RefAt (Grow (Grow S w) w2) W g d) (hs : w.heap.size ≤ w2.heap.size) : RefAt (Grow S w) W g d := by
  obtain ⟨v, h⟩ := h
  exact ⟨v, h.mono (fun k h => by rcases h with (h | h) | h; exact .inl h; exact .inr h; exact .inr (Nat.le_trans hs h))⟩
theorem RefAt.lessN {w2 : World} (h : RefAt (Grow S w2) W g d) (hs : w.heap.size ≤ w2.heap.size) : RefAt (Grow S w) W g d := by
  obtain ⟨v, h⟩ := h
  exact ⟨v, h.mono (fun k h => by rcases h with h | h; exact .inl h; exact .inr (Nat.le_trans hs h))⟩
theorem there_cases (d : DS) (s : ByteArray) : d.there s = 0 ∨ ((d.there s == 0) = false ∧ (d.there s != 0) = true ∧ d.there s ≠ 0) := by
  by_cases c : d.there s = 0
  · exact .inl c
  · exact .inr ⟨beq_eq_false_iff_ne.mpr c, bne_iff_ne.mpr c, c⟩
/-- The act begins, is done, ends: what its parts leave. -/
theorem Ends_after {w1 w2 w3 : World} {d2 : DS} (h1 : Below w.heap.size w w1) (o2 : Only S w1 w2) (r3 : RefAt (Grow S w2) w3 g d2) (o3 : Only S w2 w3) (hg : d2.RG) (go : Bool) : Calls Try.prog 58 #[.pointer (some ⟨g, 0, none⟩), .bool go] w3 fun e w' => e = .returned (.int .i64 (if go then 7 else 0)) ∧ RefAt (Grow S w) w' g (if go then d2.ends else d2) ∧ Only S w w' := by
  obtain ⟨v, r3⟩ := r3
  refine (REnds_Q r3 hg.fit hg.safe go hg.len).mono ?_
  rintro e w' ⟨he, hr, ho⟩
  have hs2 : w.heap.size ≤ w2.heap.size := Nat.le_trans h1.size o2.size
  have hs3 : w2.heap.size ≤ w3.heap.size := o3.size
  have o12 : Only S w w2 := ((Only.refl S w).below h1).trans o2
  exact ⟨he, (hr.less hs3).lessN hs2, o12.trans (o3.step ho)⟩
set_option maxHeartbeats 2000000 in
set_option maxRecDepth 100000 in
theorem RRemove_Q (h : RefW S w g d v) (hok : d.Ok) (hg : d.RG) (s : ByteArray) (hg2 : (d.act.drop s).RG) : Calls Try.prog 47 #[.pointer (some ⟨g, 0, none⟩), .string s] w fun e w' => e = .returned (.int .i64 (d.remove s).1) ∧ RefAt (Grow S w) w' g (d.remove s).2 ∧ Only S w w' := by
  have HM := Aside0.mk (RMay_Q h s true hg.len)
  have HW := Aside0.mk h
  have HOk := Aside0.mk hok
  have HG := Aside0.mk hg
  have HG2 := Aside0.mk hg2
  clear h hok hg hg2
  unfold DS.remove DS.fall
  rcases there_cases d s with ht | ⟨c1, c2, c3⟩
  · rw [if_neg (fun h => h ht)]
    rw [ht] at HM
    have HBg := Aside0.mk (fun w1 (hb : Below w.heap.size w w1) => RBegins_Q (HW.out.below hb) HOk.out)
    obtain ⟨go, hgo⟩ : ∃ b, b = d.goes := ⟨_, rfl⟩
    obtain ⟨kp, hkp⟩ : ∃ b, b = decide (0 < d.keep) := ⟨_, rfl⟩
    have HKp := Aside0.mk hkp
    rw [← hgo, ← hkp] at HBg
    rw [← hgo]
    clear hgo hkp ht
    by_cases hdn : (!go || kp) = true
    · have HE : Aside0 ((if go = true then ((7 : Int), (if 0 < d.keep then d.act.drop s else d.act).ends) else ((0 : Int), d.act.drop s)) = (if go = true then 7 else 0, if go = true then (d.act.drop s).ends else d.act.drop s)) := ⟨by
        cases go with
        | false => rfl
        | true => rw [if_pos rfl, if_pos rfl, if_pos rfl, if_pos (of_decide_eq_true (by rw [← HKp.out]; exact hdn))]⟩
      rw [HE.out]
      rw [hdn] at HBg
      clear hdn
      cases go
      all_goals
        go_enter Try.func47, Try.ntmps47
        go_wp2_with (first
          | (go_at_call 50; refine HM.out.mono ?_; rintro e w1 ⟨rfl, hb⟩; have HB := Aside0.mk hb; clear hb HM)
          | (go_at_call 57; refine (HBg.out _ HB.out).mono ?_; rintro e w2 ⟨rfl, hr, ho⟩; have HR := Aside0.mk hr; have HO := Aside0.mk ho; clear hr ho HBg)
          | (go_at_call 60; refine (RDrop_Q HR.out s HG.out.len).mono ?_; rintro e w3 ⟨rfl, hr, ho⟩; have HR3 := Aside0.mk hr; have HO3 := Aside0.mk ho; clear hr ho HR)
          | (go_at_call 58; refine (Ends_after HB.out HO.out HR3.out HO3.out HG2.out _).mono ?_; rintro e w4 ⟨rfl, hr, ho⟩; have HR4 := Aside0.mk hr; have HO4 := Aside0.mk ho; clear hr ho HR3))
        go_ret
        exact ⟨by first | rfl | simp, HR4.out, HO4.out⟩
    · have hdn2 : (!go || kp) = false := Bool.eq_false_iff.2 hdn
      have hg1 : go = true := by cases go <;> simp_all
      have hk1 : kp = false := by cases kp <;> simp_all
      subst hg1
      subst hk1
      have HE : Aside0 ((if (true : Bool) = true then ((7 : Int), (if 0 < d.keep then d.act.drop s else d.act).ends) else ((0 : Int), d.act.drop s)) = (7, d.act.ends)) := ⟨by
        rw [if_pos rfl, if_neg (of_decide_eq_false HKp.out.symm)]⟩
      rw [HE.out]
      rw [hdn2] at HBg
      clear hdn hdn2
      go_enter Try.func47, Try.ntmps47
      go_wp2_with (first
        | (go_at_call 50; refine HM.out.mono ?_; rintro e w1 ⟨rfl, hb⟩; have HB := Aside0.mk hb; clear hb HM)
        | (go_at_call 57; refine (HBg.out _ HB.out).mono ?_; rintro e w2 ⟨rfl, hr, ho⟩; have HR := Aside0.mk hr; have HO := Aside0.mk ho; clear hr ho HBg)
        | (go_at_call 58; refine (Ends_after HB.out HO.out (HR.out.at).grow (Only.refl _ _) HG.out.act true).mono ?_; rintro e w4 ⟨rfl, hr, ho⟩; have HR4 := Aside0.mk hr; have HO4 := Aside0.mk ho; clear hr ho HR))
      go_ret
      exact ⟨by simp, HR4.out, HO4.out⟩
  · rw [if_pos c3]
    obtain ⟨r, hr⟩ : ∃ r, r = d.there s := ⟨_, rfl⟩
    rw [← hr] at c1 c2 HM ⊢
    clear hr c3
    go_enter Try.func47, Try.ntmps47
    go_wp2_with (first
      | (go_at_call 50; refine HM.out.mono ?_; rintro e w1 ⟨rfl, hb⟩; have HB := Aside0.mk hb; clear hb HM))
    go_ret
    exact ⟨rfl, (HW.out.below HB.out).at.grow, (Only.refl S w).below HB.out⟩
end
end Go.Proofs.Ytoedkemjidgbeaa.Dk
/- The reference's device: Sync. -/
namespace Go.Proofs.Ytoedkemjidgbeaa.Dk
open Go Go.RowKit Go.Proofs.YtoedkemjidgbeaaW.PrintWords Go.Proofs.YtoedkemjidgbeaaW.PrintLast Go.Proofs.YtoedkemjidgbeaaW.PrintMore Go.Proofs.YtoedkemjidgbeaaMy Go.Proofs.Ytoedkemjidgbeaa Go.Proofs.YtoedkemjidgbeaaPw Go.Proofs.Ytoedkemjidgbeaa.PAll
set_option linter.unusedVariables false
set_option linter.unusedSimpArgs false
def DS.rput (d : DS) (f : Fl) : DS := { d with files := putS d.files f }
def DS.rsync (d : DS) (s : ByteArray) : Int × DS := if d.there s ≠ 0 then (d.there s, d) else if d.goes = true then (7, d.act.ends) else (0, d.act.rput ⟨s, (d.fileOr s).b, (d.fileOr s).b.length⟩)
section
variable {S S1 : Nat → Prop} {W W1 w : World} {g : Nat} {d : DS} {v v1 : Value}
theorem there_at {s : ByteArray} (h : d.there s = 0) : ∃ (f : Fl) (i : Nat) (hi : i < d.files.length), atI d.files s = (i : Int) ∧ (d.files[i]'hi) = f ∧ d.fileOr s = f ∧ f.name = s := by
  obtain ⟨_, f, hf⟩ := there_ready h
  obtain ⟨i, h1, hi, h2⟩ := atI_some hf
  exact ⟨f, i, hi, h1, h2, fileOr_some hf, (findF_some hf).2⟩
theorem RefW.fileAt {ad : Addr} {n c i : Nat} {f : Fl} {bt : ByteArray} (h : RefW S w g d (.slice (some ad) n c)) (hf : d.files[i]? = some f) (hb : bt = strOfNums f.b) : w.cell? (ad.add (i * 3)) = some (.string f.name) ∧ w.cell? ⟨(ad.add (i * 3)).block, (ad.add (i * 3)).off + 1, none⟩ = some (.string bt) ∧ w.cell? ⟨(ad.add (i * 3)).block, (ad.add (i * 3)).off + 2, none⟩ = some (.int .i64 (f.safe : Int)) := by
  obtain ⟨A, c', ev, hall⟩ := h.file
  cases ev
  obtain ⟨hi, hf⟩ := List.getElem?_eq_some_iff.1 hf
  obtain ⟨ad', ea, h⟩ := hall i hi
  cases ea
  subst hb
  subst hf
  exact h
theorem stored {w2 w' : World} {s' : Nat} (hz : w'.heap[s']? = some (.cells #[.string ⟨#[]⟩, .string ⟨#[]⟩, .int .i64 0] 75 (0, 0))) (hlo : w2.heap.size ≤ s') (hb : Below w2.heap.size w2 w') (x : S75) : (((w'.setCell ⟨s', 0, none⟩ (.string x.f0)).setCell ⟨s', 1, none⟩ (.string x.f1)).setCell ⟨s', 2, none⟩ (.int .i64 x.f2)).heap[s']? = some (fileLit x) ∧ Below w2.heap.size w2 (((w'.setCell ⟨s', 0, none⟩ (.string x.f0)).setCell ⟨s', 1, none⟩ (.string x.f1)).setCell ⟨s', 2, none⟩ (.int .i64 x.f2)) :=
  ⟨blk_set (blk_set (blk_set hz 0 _) 1 _) 2 _, ((hb.setCell hlo _).setCell hlo _).setCell hlo _⟩
theorem RPut_Q' (h : RefW S w g d v) (f : Fl) {bt : ByteArray} (hb : bt = strOfNums f.b) (hl : d.files.length ≤ 4096) : Calls Try.prog 56 #[.pointer (some ⟨g, 0, none⟩), .agg #[.string f.name, .string bt, .int .i64 (f.safe : Int)]] w fun e w' => e = .returned (.tuple #[]) ∧ RefAt (Grow S w) w' g (d.rput f) ∧ Only S w w' := by
  subst hb
  exact RPut_Q h f hl
theorem RefW.atQ (h : RefW S w g d v) {s : ByteArray} {i : Nat} (hat : atI d.files s = (i : Int)) (hl : d.files.length ≤ 4096) {w' : World} (hb : Below w.heap.size w w') : Calls Try.prog 51 #[.pointer (some ⟨g, 0, none⟩), .string s] w' fun e w'' => e = .returned (.int .i64 (i : Int)) ∧ Below w'.heap.size w' w'' := by
  have h2 := RAt_Q (h.below hb) s hl
  rw [hat] at h2
  exact h2
set_option maxHeartbeats 2000000 in
set_option maxRecDepth 100000 in
theorem RSync_Q (h : RefW S w g d v) (hok : d.Ok) (hg : d.RG) (s : ByteArray) : Calls Try.prog 44 #[.pointer (some ⟨g, 0, none⟩), .string s] w fun e w' => e = .returned (.int .i64 (d.rsync s).1) ∧ RefAt (Grow S w) w' g (d.rsync s).2 ∧ Only S w w' := by
  have HM := Aside0.mk (RMay_Q h s true hg.len)
  have HW := Aside0.mk h
  have HOk := Aside0.mk hok
  have HG := Aside0.mk hg
  unfold DS.rsync
  rcases there_cases d s with ht | ⟨c1, c2, c3⟩
  · rw [if_neg (fun h => h ht)]
    rw [ht] at HM
    have HAc := Aside0.mk (fun w1 (hb : Below w.heap.size w w1) => RAct_Q (HW.out.below hb) HOk.out)
    obtain ⟨f, i, hi, hat, hfi, hfo, hnm⟩ := there_at ht
    subst hnm
    obtain ⟨A, c, ev, hall⟩ := h.file
    obtain ⟨ad, ea, hrest⟩ := hall i hi
    clear hrest
    subst ev
    subst ea
    rw [hfo]
    have HI := Aside0.mk hi
    have HAt := Aside0.mk hat
    have HFi := Aside0.mk (show d.files[i]? = some f by rw [List.getElem?_eq_getElem hi, hfi])
    clear h hok hg ht hall hfi hfo hat hi
    obtain ⟨go, hgo⟩ : ∃ b, b = d.goes := ⟨_, rfl⟩
    rw [← hgo] at HAc
    rw [← hgo]
    clear hgo
    cases go with
    | true =>
      rw [if_pos rfl]
      go_enter Try.func44, Try.ntmps44
      go_wp2_with (first
        | (go_at_call 50; refine HM.out.mono ?_; rintro e w1 ⟨rfl, hb⟩; have HB := Aside0.mk hb; clear hb HM)
        | (go_at_call 55; refine (HAc.out _ HB.out).mono ?_; rintro e w2 ⟨rfl, hr, ho⟩; have z5 : w2.cell? ⟨g, 5, none⟩ = some (.int .i64 d.act.keep) := hr.cell 5; have z6 : w2.cell? ⟨g, 6, none⟩ = some (.bool d.act.torn) := hr.cell 6; have HLo := Aside0.mk (RLose_Q (hr.below (W1 := w2.drew) (below_drew1 (Below.refl _ _))) HG.out.act.fit HG.out.act.safe d.act.keep d.act.torn HG.out.act.len); have HO := Aside0.mk ho; clear hr ho HAc))
      refine start_ (n := 10) (S := fun w' => w'.cell? ⟨g, 5, none⟩ = some (.int .i64 d.act.keep) ∧ w'.cell? ⟨g, 6, none⟩ = some (.bool d.act.torn)) (ds := [9]) #[false, false, false, false, false, false, false, false, false, false] (by kernel_rfl) rfl rfl ⟨z5, z6⟩ (fun hHeld => ?_)
      refine pure_ (i := 0) (N := some 15) (v := ?_) (a' := ?_) #[true, false, false, false, false, false, false, false, false, false] rfl rfl (by kernel_rfl) (fun _ _ _ h => h) (Or.inl ⟨by rfl, ?_⟩) ?_ ?_
      rotate_left
      · intro w'
        go_simp
        with_reducible rfl
      rotate_left
      · simp only [Act.put, List.setIfInBounds_toArray, List.set_cons_zero, List.set_cons_succ, i64_w, i32_w]
        rfl
      refine pure_ (i := 1) (N := some 16) (v := ?_) (a' := ?_) #[true, true, false, false, false, false, false, false, false, false] rfl rfl (by kernel_rfl) (fun _ _ _ h => h) (Or.inl ⟨by rfl, ?_⟩) ?_ ?_
      rotate_left
      · intro w'
        go_simp
        with_reducible rfl
      rotate_left
      · simp only [Act.put, List.setIfInBounds_toArray, List.set_cons_zero, List.set_cons_succ, i64_w, i32_w]
        rfl
      refine pure_ (i := 2) (N := some 17) (v := ?_) (a' := ?_) #[true, true, true, false, false, false, false, false, false, false] rfl rfl (by kernel_rfl) (fun _ _ _ h => h) (Or.inl ⟨by rfl, ?_⟩) ?_ ?_
      rotate_left
      · intro w'
        go_simp
        with_reducible rfl
      rotate_left
      · simp only [Act.put, List.setIfInBounds_toArray, List.set_cons_zero, List.set_cons_succ, i64_w, i32_w]
        rfl
      refine pure_ (i := 3) (N := some 18) (v := ?_) (a' := ?_) #[true, true, true, true, false, false, false, false, false, false] rfl rfl (by kernel_rfl) (fun _ _ _ h => h) (Or.inl ⟨by rfl, ?_⟩) ?_ ?_
      rotate_left
      · intro w'
        go_simp
        with_reducible rfl
      rotate_left
      · simp only [Act.put, List.setIfInBounds_toArray, List.set_cons_zero, List.set_cons_succ, i64_w, i32_w]
        rfl
      refine take_ (i := 4) (N := some 19) (v := ?_) (a' := ?_) #[true, true, true, true, true, false, false, false, false, false] rfl rfl (by kernel_rfl) (fun _ _ _ h => h) (Or.inl ⟨by rfl, ?_⟩) hHeld ?_ ?_
      rotate_left
      · intro w' s0
        obtain ⟨y0, y1⟩ := s0
        go_simp
        with_reducible rfl
      rotate_left
      · simp only [Act.put, List.setIfInBounds_toArray, List.set_cons_zero, List.set_cons_succ, i64_w, i32_w]
        rfl
      refine pure_ (i := 5) (N := some 20) (v := ?_) (a' := ?_) #[true, true, true, true, true, true, false, false, false, false] rfl rfl (by kernel_rfl) (fun _ _ _ h => h) (Or.inl ⟨by rfl, ?_⟩) ?_ ?_
      rotate_left
      · intro w'
        go_simp
        with_reducible rfl
      rotate_left
      · simp only [Act.put, List.setIfInBounds_toArray, List.set_cons_zero, List.set_cons_succ, i64_w, i32_w]
        rfl
      refine pure_ (i := 6) (N := some 21) (v := ?_) (a' := ?_) #[true, true, true, true, true, true, true, false, false, false] rfl rfl (by kernel_rfl) (fun _ _ _ h => h) (Or.inl ⟨by rfl, ?_⟩) ?_ ?_
      rotate_left
      · intro w'
        go_simp
        with_reducible rfl
      rotate_left
      · simp only [Act.put, List.setIfInBounds_toArray, List.set_cons_zero, List.set_cons_succ, i64_w, i32_w]
        rfl
      refine pure_ (i := 7) (N := some 22) (v := ?_) (a' := ?_) #[true, true, true, true, true, true, true, true, false, false] rfl rfl (by kernel_rfl) (fun _ _ _ h => h) (Or.inl ⟨by rfl, ?_⟩) ?_ ?_
      rotate_left
      · intro w'
        go_simp
        with_reducible rfl
      rotate_left
      · simp only [Act.put, List.setIfInBounds_toArray, List.set_cons_zero, List.set_cons_succ, i64_w, i32_w]
        rfl
      refine take_ (i := 8) (N := some 23) (v := ?_) (a' := ?_) #[true, true, true, true, true, true, true, true, true, false] rfl rfl (by kernel_rfl) (fun _ _ _ h => h) (Or.inl ⟨by rfl, ?_⟩) hHeld ?_ ?_
      rotate_left
      · intro w' s0
        obtain ⟨y0, y1⟩ := s0
        go_simp
        with_reducible rfl
      rotate_left
      · simp only [Act.put, List.setIfInBounds_toArray, List.set_cons_zero, List.set_cons_succ, i64_w, i32_w]
        rfl
      refine last_ (i := 9) (N := some 24) #[true, true, true, true, true, true, true, true, true, true] rfl rfl (by kernel_rfl) (by decide) (fun K hK => ?_)
      refine goes_ Try.func48 (by kernel_rfl) rfl #[.pointer (some ⟨g, 0, none⟩), .int .i64 d.act.keep, .bool d.act.torn] (by rfl) rfl rfl (by (try simp only [List.map_toArray, List.map_cons, List.map_nil]); first | done | rfl) ?_
      refine (HLo.out).mono ?_
      rintro e wo ⟨rfl, hDo, hOo⟩
      refine ⟨_, rfl, ?_⟩
      have HDo := Aside0.mk hDo
      have HOo := Aside0.mk hOo
      clear hDo hOo
      refine hK.out _ _ ?_
      clear hK K
      refine done_ (by kernel_rfl) ?_
      go_wp2
      go_ret
      exact ⟨by simp, HDo.out.lessN (Nat.le_trans HB.out.size HO.out.size), (((Only.refl S w).below HB.out).trans (HO.out.below (below_drew1 (Below.refl _ _)))).trans HOo.out⟩
    | false =>
      rw [if_neg (by simp)]
      obtain ⟨bt, hbt⟩ : ∃ b, b = strOfNums f.b := ⟨_, rfl⟩
      have HBt := Aside0.mk hbt
      obtain ⟨bl, hbl⟩ : ∃ b, b = f.b.length := ⟨_, rfl⟩
      have hsz : bt.size = bl := by rw [hbt, hbl, str_size2]
      have HBl := Aside0.mk hbl
      clear hbt hbl
      obtain ⟨n, hn⟩ : ∃ n, n = d.files.length := ⟨_, rfl⟩
      have HN := Aside0.mk hn
      rw [← hn] at HW HI HAc
      have hi1 : (0 : Int) ≤ (i : Int) := Int.natCast_nonneg _
      have hi2 : (i : Int) < (n : Int) := Int.ofNat_lt.2 HI.out
      have hi3 : i < n := HI.out
      clear hn
      go_enter Try.func44, Try.ntmps44
      go_wp2_with (first
        | (go_at_call 50; refine HM.out.mono ?_; rintro e w1 ⟨rfl, hb⟩; have HB := Aside0.mk hb; clear hb HM)
        | (go_at_call 55; refine (HAc.out _ HB.out).mono ?_; rintro e w2 ⟨rfl, hr, ho⟩; have z0 : w2.cell? ⟨g, 0, none⟩ = some (.slice (some ad) n c) := hr.cell 0; have HA := Aside0.mk (fun w' (hb : Below w2.heap.size w2 w') => hr.atQ HAt.out HG.out.len hb); obtain ⟨x0, x1, x2⟩ := hr.fileAt HFi.out HBt.out; have HR := Aside0.mk hr; have HO := Aside0.mk ho; clear hr ho HAc))
      refine start_ (n := 11) (S := fun w' => w'.cell? ⟨g, 0, none⟩ = some (.slice (some ad) n c) ∧ w'.cell? (ad.add (i * 3)) = some (.string f.name) ∧ w'.cell? ⟨(ad.add (i * 3)).block, (ad.add (i * 3)).off + 1, none⟩ = some (.string bt) ∧ w'.cell? ⟨(ad.add (i * 3)).block, (ad.add (i * 3)).off + 2, none⟩ = some (.int .i64 (f.safe : Int))) (ds := [10]) #[false, false, false, false, false, false, false, false, false, false, false] (by kernel_rfl) rfl rfl ⟨z0, x0, x1, x2⟩ (fun hHeld => ?_)
      refine pure_ (i := 0) (N := some 25) (v := ?_) (a' := ?_) #[true, false, false, false, false, false, false, false, false, false, false] rfl rfl (by kernel_rfl) (fun _ _ _ h => h) (Or.inl ⟨by rfl, ?_⟩) ?_ ?_
      rotate_left
      · intro w'
        go_simp
        with_reducible rfl
      rotate_left
      · simp only [Act.put, List.setIfInBounds_toArray, List.set_cons_zero, List.set_cons_succ, i64_w, i32_w]
        rfl
      refine pure_ (i := 1) (N := some 26) (v := ?_) (a' := ?_) #[true, true, false, false, false, false, false, false, false, false, false] rfl rfl (by kernel_rfl) (fun _ _ _ h => h) (Or.inl ⟨by rfl, ?_⟩) ?_ ?_
      rotate_left
      · intro w'
        go_simp
        with_reducible rfl
      rotate_left
      · simp only [Act.put, List.setIfInBounds_toArray, List.set_cons_zero, List.set_cons_succ, i64_w, i32_w]
        rfl
      refine pure_ (i := 2) (N := some 27) (v := ?_) (a' := ?_) #[true, true, true, false, false, false, false, false, false, false, false] rfl rfl (by kernel_rfl) (fun _ _ _ h => h) (Or.inl ⟨by rfl, ?_⟩) ?_ ?_
      rotate_left
      · intro w'
        go_simp
        with_reducible rfl
      rotate_left
      · simp only [Act.put, List.setIfInBounds_toArray, List.set_cons_zero, List.set_cons_succ, i64_w, i32_w]
        rfl
      refine take_ (i := 3) (N := some 28) (v := ?_) (a' := ?_) #[true, true, true, true, false, false, false, false, false, false, false] rfl rfl (by kernel_rfl) (fun _ _ _ h => h) (Or.inl ⟨by rfl, ?_⟩) hHeld ?_ ?_
      rotate_left
      · intro w' s0
        obtain ⟨y0, y1, y2, y3⟩ := s0
        go_simp
        with_reducible rfl
      rotate_left
      · simp only [Act.put, List.setIfInBounds_toArray, List.set_cons_zero, List.set_cons_succ, i64_w, i32_w]
        rfl
      refine pure_ (i := 4) (N := some 29) (v := ?_) (a' := ?_) #[true, true, true, true, true, false, false, false, false, false, false] rfl rfl (by kernel_rfl) (fun _ _ _ h => h) (Or.inl ⟨by rfl, ?_⟩) ?_ ?_
      rotate_left
      · intro w'
        go_simp
        with_reducible rfl
      rotate_left
      · simp only [Act.put, List.setIfInBounds_toArray, List.set_cons_zero, List.set_cons_succ, i64_w, i32_w]
        rfl
      refine pure_ (i := 5) (N := some 30) (v := ?_) (a' := ?_) #[true, true, true, true, true, true, false, false, false, false, false] rfl rfl (by kernel_rfl) (fun _ _ _ h => h) (Or.inl ⟨by rfl, ?_⟩) ?_ ?_
      rotate_left
      · intro w'
        go_simp
        with_reducible rfl
      rotate_left
      · simp only [Act.put, List.setIfInBounds_toArray, List.set_cons_zero, List.set_cons_succ, i64_w, i32_w]
        rfl
      clear hHeld
      refine join_ (σ := Nat) 1 #[true, true, true, true, true, true, true, true, true, true, false] (fun s => [(31, .int .i64 (i : Int)), (32, .pointer (some (ad.add (i * 3)))), (33, .agg #[.string f.name, .string bt, .int .i64 (f.safe : Int)]), (6, .pointer (some ⟨s, 0, none⟩))]) (fun s w' => w'.heap[s]? = some (.cells #[.string ⟨#[]⟩, .string ⟨#[]⟩, .int .i64 0] 75 (0, 0)) ∧ w2.heap.size ≤ s ∧ Below w2.heap.size w2 w' ∧ w'.cell? ⟨g, 0, none⟩ = some (.slice (some ad) n c) ∧ w'.cell? (ad.add (i * 3)) = some (.string f.name) ∧ w'.cell? ⟨(ad.add (i * 3)).block, (ad.add (i * 3)).off + 1, none⟩ = some (.string bt) ∧ w'.cell? ⟨(ad.add (i * 3)).block, (ad.add (i * 3)).off + 2, none⟩ = some (.int .i64 (f.safe : Int))) ?_ ?_
      rotate_left
      · intro hCont
        refine two_ (i := 6) (j := 9) (Ni := some 31) (Nj := some 6) #[true, true, true, true, true, true, true, false, false, false, false] #[true, true, true, true, true, true, false, false, false, true, false] rfl rfl rfl rfl (by kernel_rfl) (by decide) (by decide) (fun K hK => ?_) (fun K hK => ?_)
        · skip
          refine goes_ Try.func51 (by kernel_rfl) rfl #[.pointer (some ⟨g, 0, none⟩), .string f.name] (by rfl) rfl rfl (by (try simp only [List.map_toArray, List.map_cons, List.map_nil]); first | done | rfl) ?_
          refine (HA.out _ (below_drew1 (Below.refl _ _))).mono ?_
          rintro e w3 ⟨rfl, hb3⟩
          refine ⟨_, rfl, ?_⟩
          have hbw : Below w2.heap.size w2 w3 := (below_drew1 (Below.refl _ _)).trans hb3
          have hS3 := And.intro (pw_cell_below hbw z0) (And.intro (pw_cell_below hbw x0) (And.intro (pw_cell_below hbw x1) (pw_cell_below hbw x2)))
          refine hK.out _ _ hS3 (fun hHeld => ?_)
          clear hK K
          refine norm_ (a' := ?_) ?_ ?_
          rotate_left
          · show Act.put _ (some 31) _ = _
            simp only [Act.put, List.setIfInBounds_toArray, List.set_cons_zero, List.set_cons_succ, i64_w, i32_w]
            rfl
          refine pure_ (i := 7) (N := some 32) (v := ?_) (a' := ?_) #[true, true, true, true, true, true, true, true, false, false, false] rfl rfl (by kernel_rfl) (fun _ _ _ h => h) (Or.inl ⟨by rfl, ?_⟩) ?_ ?_
          rotate_left
          · intro w'
            go_simp
            with_reducible rfl
          rotate_left
          · simp only [Act.put, List.setIfInBounds_toArray, List.set_cons_zero, List.set_cons_succ, i64_w, i32_w]
            rfl
          refine take_ (i := 8) (N := some 33) (v := ?_) (a' := ?_) #[true, true, true, true, true, true, true, true, true, false, false] rfl rfl (by kernel_rfl) (fun _ _ _ h => h) (Or.inl ⟨by rfl, ?_⟩) hHeld ?_ ?_
          rotate_left
          · intro w' s0
            obtain ⟨y0, y1, y2, y3⟩ := s0
            go_simp
            with_reducible rfl
          rotate_left
          · simp only [Act.put, List.setIfInBounds_toArray, List.set_cons_zero, List.set_cons_succ, i64_w, i32_w]
            rfl
          refine one_ (i := 9) (N := some 6) #[true, true, true, true, true, true, true, true, true, true, false] rfl rfl (by kernel_rfl) (by decide) (fun K hK => ?_)
          refine value_ (w1 := ?_) (v := ?_) (by rfl) rfl ?_ ?_
          rotate_left 2
          · go_simp
            constructor
            · rfl
            · rfl
          have hbw4 := below_alloc hbw (.cells #[.string ⟨#[]⟩, .string ⟨#[]⟩, .int .i64 0] 75 (0, 0))
          have hS4 := And.intro (pw_cell_below hbw4 z0) (And.intro (pw_cell_below hbw4 x0) (And.intro (pw_cell_below hbw4 x1) (pw_cell_below hbw4 x2)))
          refine hK.out _ _ hS4 (fun hHeld => ?_)
          clear hK K
          refine norm_ (a' := ?_) ?_ ?_
          rotate_left
          · show Act.put _ (some 6) _ = _
            simp only [Act.put, List.setIfInBounds_toArray, List.set_cons_zero, List.set_cons_succ, i64_w, i32_w]
            rfl
          exact norm_ (by simp only [putAll, Act.put, List.setIfInBounds_toArray, List.set_cons_zero, List.set_cons_succ]) (hCont w3.heap.size _ ⟨blk_new w3 (.cells #[.string ⟨#[]⟩, .string ⟨#[]⟩, .int .i64 0] 75 (0, 0)), hbw.size, hbw4, hS4⟩)
        · skip
          refine value_ (w1 := ?_) (v := ?_) (by rfl) rfl ?_ ?_
          rotate_left 2
          · go_simp
            constructor
            · rfl
            · rfl
          have hbw4 : Below w2.heap.size w2 ((w2.alloc (.cells #[.string ⟨#[]⟩, .string ⟨#[]⟩, .int .i64 0] 75 (0, 0))).drew) := below_drew1 (below_alloc (Below.refl _ _) (.cells #[.string ⟨#[]⟩, .string ⟨#[]⟩, .int .i64 0] 75 (0, 0)))
          have hS4 := And.intro (pw_cell_below hbw4 z0) (And.intro (pw_cell_below hbw4 x0) (And.intro (pw_cell_below hbw4 x1) (pw_cell_below hbw4 x2)))
          refine hK.out _ _ hS4 (fun hHeld => ?_)
          clear hK K
          refine norm_ (a' := ?_) ?_ ?_
          rotate_left
          · show Act.put _ (some 6) _ = _
            simp only [Act.put, List.setIfInBounds_toArray, List.set_cons_zero, List.set_cons_succ, i64_w, i32_w]
            rfl
          refine one_ (i := 6) (N := some 31) #[true, true, true, true, true, true, true, false, false, true, false] rfl rfl (by kernel_rfl) (by decide) (fun K hK => ?_)
          refine goes_ Try.func51 (by kernel_rfl) rfl #[.pointer (some ⟨g, 0, none⟩), .string f.name] (by rfl) rfl rfl (by (try simp only [List.map_toArray, List.map_cons, List.map_nil]); first | done | rfl) ?_
          refine (HA.out _ hbw4).mono ?_
          rintro e w3 ⟨rfl, hb3⟩
          refine ⟨_, rfl, ?_⟩
          have hbw : Below w2.heap.size w2 w3 := hbw4.trans (hb3.mono hbw4.size)
          have hS3 := And.intro (pw_cell_below hbw z0) (And.intro (pw_cell_below hbw x0) (And.intro (pw_cell_below hbw x1) (pw_cell_below hbw x2)))
          have hz3 := (hb3.block w2.heap.size (by simp)).trans (blk_new w2 (.cells #[.string ⟨#[]⟩, .string ⟨#[]⟩, .int .i64 0] 75 (0, 0)))
          refine hK.out _ _ hS3 (fun hHeld => ?_)
          clear hK K
          refine norm_ (a' := ?_) ?_ ?_
          rotate_left
          · show Act.put _ (some 31) _ = _
            simp only [Act.put, List.setIfInBounds_toArray, List.set_cons_zero, List.set_cons_succ, i64_w, i32_w]
            rfl
          refine pure_ (i := 7) (N := some 32) (v := ?_) (a' := ?_) #[true, true, true, true, true, true, true, true, false, true, false] rfl rfl (by kernel_rfl) (fun _ _ _ h => h) (Or.inl ⟨by rfl, ?_⟩) ?_ ?_
          rotate_left
          · intro w'
            go_simp
            with_reducible rfl
          rotate_left
          · simp only [Act.put, List.setIfInBounds_toArray, List.set_cons_zero, List.set_cons_succ, i64_w, i32_w]
            rfl
          refine take_ (i := 8) (N := some 33) (v := ?_) (a' := ?_) #[true, true, true, true, true, true, true, true, true, true, false] rfl rfl (by kernel_rfl) (fun _ _ _ h => h) (Or.inl ⟨by rfl, ?_⟩) hHeld ?_ ?_
          rotate_left
          · intro w' s0
            obtain ⟨y0, y1, y2, y3⟩ := s0
            go_simp
            with_reducible rfl
          rotate_left
          · simp only [Act.put, List.setIfInBounds_toArray, List.set_cons_zero, List.set_cons_succ, i64_w, i32_w]
            rfl
          exact norm_ (by simp only [putAll, Act.put, List.setIfInBounds_toArray, List.set_cons_zero, List.set_cons_succ]) (hCont w2.heap.size _ ⟨hz3, Nat.le_refl _, hbw, hS3⟩)
      rintro s' w' ⟨hz, hlo, hb, y0, y1, y2, y3⟩
      refine norm_ (a' := ?_) ?_ ?_
      rotate_left
      · simp only [putAll, Act.put, List.setIfInBounds_toArray, List.set_cons_zero, List.set_cons_succ]
        rfl
      refine last_ (i := 10) (N := none) #[true, true, true, true, true, true, true, true, true, true, true] rfl rfl (by kernel_rfl) (by decide) (fun K hK => ?_)
      rw [if_pos (by rfl)]
      have q0 : w'.cell? ⟨s', 0, none⟩ = some (.string ⟨#[]⟩) := (blk_cell hz 0).trans rfl
      have q1 : w'.cell? ⟨s', 1, none⟩ = some (.string ⟨#[]⟩) := (blk_cell hz 1).trans rfl
      have q2 : w'.cell? ⟨s', 2, none⟩ = some (.int .i64 0) := (blk_cell hz 2).trans rfl
      have r0 := blk_frozen hz 0
      have r1 := blk_frozen hz 1
      have r2 := blk_frozen hz 2
      go_simp
      refine hK.out _ _ ?_
      clear hK K
      refine done_ (by kernel_rfl) ?_
      obtain ⟨hz3, hb3⟩ := stored hz hlo hb ⟨f.name, bt, (f.safe : Int)⟩
      obtain ⟨Wx, hWx⟩ : ∃ W, W = ((w'.setCell ⟨s', 0, none⟩ (.string f.name)).setCell ⟨s', 1, none⟩ (.string bt)).setCell ⟨s', 2, none⟩ (.int .i64 (f.safe : Int)) := ⟨_, rfl⟩
      rw [← hWx] at hz3 hb3 ⊢
      clear q0 q1 q2 r0 r1 r2 y0 y1 y2 y3 hz hb hWx z0 x0 x1 x2
      have q0 : Wx.cell? ⟨s', 0, none⟩ = some (.string f.name) := (blk_cell hz3 0).trans rfl
      have q1 : Wx.cell? ⟨s', 1, none⟩ = some (.string bt) := (blk_cell hz3 1).trans rfl
      have q2 : Wx.cell? ⟨s', 2, none⟩ = some (.int .i64 (f.safe : Int)) := (blk_cell hz3 2).trans rfl
      have r2 := blk_frozen hz3 2
      have HBx := Aside0.mk (show Below w2.heap.size w2 (Wx.setCell ⟨s', 2, none⟩ (.int .i64 (bl : Int))) from hb3.setCell hlo _)
      clear hz3 hb3
      go_wp2_with (first
        | (go_at_call 56; refine (RPut_Q' (HR.out.below HBx.out) ⟨f.name, f.b, bl⟩ HBt.out HG.out.act.len).mono ?_; rintro e w4 ⟨rfl, hr, ho⟩; have HR4 := Aside0.mk hr; have HO4 := Aside0.mk ho; clear hr ho HR))
      go_ret
      exact ⟨rfl, by rw [← HBl.out]; exact HR4.out.lessN (Nat.le_trans HB.out.size (Nat.le_trans HO.out.size HBx.out.size)), (((Only.refl S w).below HB.out).trans (HO.out.below HBx.out)).trans HO4.out⟩
  · rw [if_pos c3]
    obtain ⟨r, hr⟩ : ∃ r, r = d.there s := ⟨_, rfl⟩
    rw [← hr] at c1 c2 HM ⊢
    clear hr c3 h
    go_enter Try.func44, Try.ntmps44
    go_wp2_with (first
      | (go_at_call 50; refine HM.out.mono ?_; rintro e w1 ⟨rfl, hb⟩; have HB := Aside0.mk hb; clear hb HM))
    go_ret
    exact ⟨rfl, (HW.out.below HB.out).at.grow, (Only.refl S w).below HB.out⟩
end
end Go.Proofs.Ytoedkemjidgbeaa.Dk
