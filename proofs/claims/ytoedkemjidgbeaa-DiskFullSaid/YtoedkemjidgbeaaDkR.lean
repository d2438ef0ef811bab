/- A device among other things in memory: its blocks are told, and what a call does to them. -/
import Derived.Test.YtoedkemjidgbeaaDkQ
namespace Go.Proofs.Ytoedkemjidgbeaa.Dk
open Go Go.RowKit Go.Proofs.YtoedkemjidgbeaaW.PrintWords Go.Proofs.YtoedkemjidgbeaaW.PrintLast Go.Proofs.YtoedkemjidgbeaaW.PrintMore Go.Proofs.YtoedkemjidgbeaaMy Go.Proofs.Ytoedkemjidgbeaa Go.Proofs.YtoedkemjidgbeaaPw Go.Proofs.Ytoedkemjidgbeaa.PAll
set_option linter.unusedVariables false
set_option linter.unusedSimpArgs false
/-- What a device keeps to; at most k acts. -/
structure DS.Up (k : Int) (d : DS) : Prop extends DS.Fit d where
  once : Once d.files
  acts : 0 ≤ d.acts ∧ d.acts ≤ k
  fuse : 0 ≤ d.fuse ∧ d.fuse ≤ 9223372036854775807
namespace DS
variable {d : DS} {k : Int}
theorem Up.ok (h : d.Up k) (hk : k < 4611686018427387904) : d.Ok := ⟨h.toFit, ⟨h.acts.1, by have := h.acts.2; omega⟩, h.fuse⟩
theorem Up.mono (h : d.Up k) {j : Int} (hj : k ≤ j) : d.Up j := ⟨h.toFit, h.once, ⟨h.acts.1, Int.le_trans h.acts.2 hj⟩, h.fuse⟩
theorem Up.more (h : d.Up k) : d.Up (k + 1) := h.mono (by omega)
theorem Up.new (room : Int) : (Dk.new room).Up 0 := ⟨Fit.new room, List.nodup_nil, ⟨Int.le_refl _, Int.le_refl _⟩, ⟨Int.le_refl _, show (0 : Int) ≤ 9223372036854775807 by decide⟩⟩
theorem act_fuse (h : 0 ≤ d.fuse ∧ d.fuse ≤ 9223372036854775807) : 0 ≤ d.act.fuse ∧ d.act.fuse ≤ 9223372036854775807 := by
  unfold DS.act
  simp only
  split <;> omega
theorem Up.act (h : d.Up k) : d.act.Up (k + 1) := ⟨h.toFit.act, h.once, ⟨by have := h.acts.1; show 0 ≤ d.acts + 1; omega, by have := h.acts.2; show d.acts + 1 ≤ k + 1; omega⟩, act_fuse h.fuse⟩
theorem Up.off (h : d.Up k) (keep : Int) (torn : Bool) : (d.off keep torn).Up k := by
  refine ⟨h.toFit.off keep torn, ?_, ?_, ?_⟩
  · unfold DS.off
    split
    · exact h.once
    · exact lose_once h.once keep torn
  · unfold DS.off
    split <;> exact h.acts
  · unfold DS.off
    split
    · exact h.fuse
    · exact ⟨Int.le_refl _, by simp⟩
theorem Up.on (h : d.Up k) : d.on.Up k := ⟨h.toFit.on, h.once, h.acts, h.fuse⟩
theorem Up.arm (h : d.Up k) (n keep : Int) (torn : Bool) (hn : n ≤ 9223372036854775807) : (d.arm n keep torn).Up k := ⟨h.toFit.arm n keep torn, h.once, h.acts, by show 0 ≤ max n 0 ∧ max n 0 ≤ 9223372036854775807; omega⟩
theorem Up.putF (h : d.Up k) {f : Fl} (hf : (d.put f).Fit) : (d.put f).Up k := ⟨hf, putF_once h.once f, h.acts, h.fuse⟩
theorem Up.dropF (h : d.Up k) (s : ByteArray) : (d.drop s).Up k := ⟨h.toFit.drop s, delF_once h.once s, h.acts, h.fuse⟩
theorem Up.append (h : d.Up k) (s : ByteArray) {xs : List Int} (hx : ∀ x ∈ xs, 0 ≤ x ∧ x ≤ 255) : (d.append s xs).2.Up (k + 1) := by
  unfold DS.append
  split
  · exact h.more
  · split
    · exact h.more
    · next hl =>
      have h1 := h.act.putF (h.toFit.act.append h.once s hx (Int.not_lt.1 hl))
      simp only
      split
      · exact h1.off _ _
      · exact h1
theorem Up.sync (h : d.Up k) (s : ByteArray) : (d.sync s).2.Up (k + 1) := by
  unfold DS.sync
  split
  · exact h.more
  · next ht =>
    obtain ⟨f, hf⟩ := (there_ready (Decidable.of_not_not ht)).2
    split
    · exact h.act.off _ _
    · rw [fileOr_some hf]
      exact h.act.putF (h.toFit.act.less h.once (f := f) (findF_some hf).1 rfl (fun _ h => h) (Nat.le_refl _))
theorem Up.fall (h : d.Up k) {done : DS → DS} (hd : (done d.act).Up (k + 1)) : (d.fall done).2.Up (k + 1) := by
  unfold DS.fall
  split
  · simp only
    split
    · exact hd.off _ _
    · exact h.act.off _ _
  · exact hd
theorem Up.cut (h : d.Up k) (s : ByteArray) (n : Int) : (d.cut s n).2.Up (k + 1) := by
  unfold DS.cut
  split
  · exact h.more
  · next ht =>
    obtain ⟨f, hf⟩ := (there_ready (Decidable.of_not_not ht)).2
    split
    · exact h.more
    · refine h.fall ?_
      rw [file_fileOr hf]
      exact h.act.putF (h.toFit.act.less h.once (f := f) (findF_some hf).1 rfl (fun x hx => List.mem_of_mem_take hx) (by unfold cutTo; rw [List.length_take]; omega))
theorem Up.rename (h : d.Up k) (a b : ByteArray) : (d.rename a b).2.Up (k + 1) := by
  unfold DS.rename
  split
  · exact h.more
  · next ht =>
    obtain ⟨f, hf⟩ := (there_ready (Decidable.of_not_not ht)).2
    split
    · exact h.more
    · refine h.fall ?_
      rw [file_fileOr hf]
      obtain ⟨hm, rfl⟩ := findF_some hf
      exact (h.act.dropF f.name).putF (h.toFit.act.move h.once hm b)
theorem Up.remove (h : d.Up k) (s : ByteArray) : (d.remove s).2.Up (k + 1) := by
  unfold DS.remove
  split
  · exact h.more
  · exact h.fall (h.act.dropF s)
end DS
/-- The device at block g; its blocks are S's, from B on. -/
structure Dev (S : Nat → Prop) (B : Nat) (W : World) (g : Nat) (d : DS) : Prop where
  at_ : DevAt S W g d
  lo : ∀ k, S k → B ≤ k
  hi : ∀ k, S k → k < W.heap.size
/-- What a call has turned: blocks of S alone; S' is S and what is new. -/
structure Step (S : Nat → Prop) (W : World) (S' : Nat → Prop) (W' : World) : Prop where
  only : Only S W W'
  sub : ∀ k, S' k → S k ∨ W.heap.size ≤ k
theorem DevAt.shrink {S : Nat → Prop} {W : World} {g : Nat} {d : DS} (h : DevAt S W g d) : DevAt (fun k => S k ∧ k < W.heap.size) W g d := by
  obtain ⟨mb, n, D, bl, vl, h⟩ := h
  exact h.shrink.at
section
variable {S S' S2 : Nat → Prop} {B : Nat} {W W' W2 : World} {g : Nat} {d d' : DS}
theorem Dev.next (h : Dev S B W g d) (hB : B ≤ W.heap.size) (hD : DevAt (Grow S W) W' g d') (hO : Only S W W') : ∃ S', Dev S' B W' g d' ∧ Step S W S' W' :=
  ⟨fun k => Grow S W k ∧ k < W'.heap.size, ⟨hD.shrink, fun k hk => hk.1.elim (h.lo k) (fun h => Nat.le_trans hB h), fun k hk => hk.2⟩, hO, fun k hk => hk.1⟩
/-- What isn't the device's may turn. -/
theorem Dev.move (h : Dev S B W g d) (hs : W.heap.size ≤ W'.heap.size) (hm : ∀ k, S k → W'.heap[k]? = W.heap[k]?) : Dev S B W' g d := by
  obtain ⟨mb, n, D, bl, vl, hd⟩ := h.at_
  exact ⟨(hd.move (fun k hk _ => hm k hk)).at, h.lo, fun k hk => Nat.lt_of_lt_of_le (h.hi k hk) hs⟩
theorem Dev.below (h : Dev S B W g d) (hb : Below W.heap.size W W') : Dev S B W' g d := h.move hb.size (fun k hk => hb.block k (h.hi k hk))
theorem Dev.other (h : Dev S B W g d) (ho : Only S2 W W') (hd : ∀ k, S k → ¬ S2 k) : Dev S B W' g d := h.move ho.size (fun k hk => ho.block k (h.hi k hk) (hd k hk))
theorem Step.below (h : Step S W S' W') (hl : ∀ k, S k → B ≤ k) (hB : B ≤ W.heap.size) : Below B W W' := h.only.toBelow hl hB
/-- A row that isn't the device's. -/
abbrev Row (S : Nat → Prop) (W : World) (A : Option Addr) (n : Nat) (xs : List Int) : Prop := Kd.F bK W (fun k => ¬ S k) A n xs
theorem Row.step {A : Option Addr} {n : Nat} {xs : List Int} (h : Row S W A n xs) (hs : Step S W S' W') : Row S' W' A n xs := by
  have h1 := F_only (Kd.F_bound h) hs.only (fun k hk => hk.1)
  exact Kd.F_mono h1 (fun k hk hS => (hs.sub k hS).elim hk.1 (fun h => by have := hk.2; omega))
theorem Row.below {A : Option Addr} {n : Nat} {xs : List Int} (h : Row S W A n xs) (hb : Below W.heap.size W W') : Row S W' A n xs := Kd.F_below h hb
theorem Row.none_ : Row S W none 0 [] := Kd.F_nil bK W _
theorem Row.of {A : Option Addr} {n cc : Nat} {xs : List Int} {e base : Nat} {ok : Nat → Prop} (h : bK.R e W base ok (.slice A n cc) xs) (hb : ∀ k, S k → k < base) : Row S W A n xs := by
  have hb2 := Kd.R_base2 h
  have h2 : bK.R e W base (fun k => ¬ S k) (.slice A n cc) xs := Kd.R_of_own (Kd.own_of_R h) (fun k hk hS => by
    rcases hb2 with h0 | ⟨k2, h3, h4⟩
    · rw [hk] at h0; cases h0
    · rw [hk] at h3
      cases h3
      have := hb k hS
      omega)
  exact Kd.R_F h2
/-- A row that came in. -/
theorem Row.came {A : Option Addr} {n : Nat} {xs : List Int} (h : bK.C W A n xs) (hl : ∀ k, S k → W.heap.size ≤ k) : Row S W A n xs := Kd.F_mono (Kd.C_F (Kd.heap_int .u8) h) (fun k hk hS => by have := hl k hS; omega)
/-! Each call, told by what the plain device does. -/
variable {k r : Int} {A : Option Addr} {n c : Nat} {xs : List Int} {s : ByteArray}
theorem New_D (w : World) (room : Int) : Calls Try.prog 11 #[.int .i64 room] w fun e w' => ∃ g S, e = .returned (.pointer (some ⟨g, 0, none⟩)) ∧ Dev S w.heap.size w' g (new room) ∧ Below w.heap.size w w' := by
  refine (New_Q w room).mono ?_
  rintro e w' ⟨g, rfl, hd, hb⟩
  exact ⟨g, _, rfl, ⟨hd.shrink, fun k hk => hk.1, fun k hk => hk.2⟩, hb⟩
theorem Append_D (h : Dev S B W g d) (hB : B ≤ W.heap.size) (hu : d.Up k) (hk : k < 4611686018427387904) (hx : Row S W A n xs) (hn : n ≤ 4294967296) (hxb : ∀ x ∈ xs, 0 ≤ x ∧ x ≤ 255) (he : d.append s xs = (r, d')) :
    Calls Try.prog 12 #[.pointer (some ⟨g, 0, none⟩), .string s, .slice A n c] W fun e W' => ∃ S', e = .returned (.int .i64 r) ∧ Dev S' B W' g d' ∧ Step S W S' W' := by
  refine (Append_Q h.at_ (hu.ok hk) s hx hn hxb).mono ?_
  rw [he]
  rintro e W' ⟨rfl, hD, hO⟩
  obtain ⟨S', h1, h2⟩ := h.next hB hD hO
  exact ⟨S', rfl, h1, h2⟩
theorem Sync_D (h : Dev S B W g d) (hB : B ≤ W.heap.size) (hu : d.Up k) (hk : k < 4611686018427387904) (he : d.sync s = (r, d')) :
    Calls Try.prog 15 #[.pointer (some ⟨g, 0, none⟩), .string s] W fun e W' => ∃ S', e = .returned (.int .i64 r) ∧ Dev S' B W' g d' ∧ Step S W S' W' := by
  refine (Sync_Q h.at_ (hu.ok hk) s).mono ?_
  rw [he]
  rintro e W' ⟨rfl, hD, hO⟩
  obtain ⟨S', h1, h2⟩ := h.next hB hD hO
  exact ⟨S', rfl, h1, h2⟩
theorem Cut_D (h : Dev S B W g d) (hB : B ≤ W.heap.size) (hu : d.Up k) (hk : k < 4611686018427387904) {j : Int} (he : d.cut s j = (r, d')) :
    Calls Try.prog 19 #[.pointer (some ⟨g, 0, none⟩), .string s, .int .i64 j] W fun e W' => ∃ S', e = .returned (.int .i64 r) ∧ Dev S' B W' g d' ∧ Step S W S' W' := by
  refine (Cut_Q h.at_ (hu.ok hk) s j).mono ?_
  rw [he]
  rintro e W' ⟨rfl, hD, hO⟩
  obtain ⟨S', h1, h2⟩ := h.next hB hD hO
  exact ⟨S', rfl, h1, h2⟩
theorem Rename_D (h : Dev S B W g d) (hB : B ≤ W.heap.size) (hu : d.Up k) (hk : k < 4611686018427387904) {b : ByteArray} (he : d.rename s b = (r, d')) :
    Calls Try.prog 18 #[.pointer (some ⟨g, 0, none⟩), .string s, .string b] W fun e W' => ∃ S', e = .returned (.int .i64 r) ∧ Dev S' B W' g d' ∧ Step S W S' W' := by
  refine (Rename_Q h.at_ (hu.ok hk) s b).mono ?_
  rw [he]
  rintro e W' ⟨rfl, hD, hO⟩
  obtain ⟨S', h1, h2⟩ := h.next hB hD hO
  exact ⟨S', rfl, h1, h2⟩
theorem Remove_D (h : Dev S B W g d) (hB : B ≤ W.heap.size) (hu : d.Up k) (hk : k < 4611686018427387904) (he : d.remove s = (r, d')) :
    Calls Try.prog 20 #[.pointer (some ⟨g, 0, none⟩), .string s] W fun e W' => ∃ S', e = .returned (.int .i64 r) ∧ Dev S' B W' g d' ∧ Step S W S' W' := by
  refine (Remove_Q h.at_ (hu.ok hk) s).mono ?_
  rw [he]
  rintro e W' ⟨rfl, hD, hO⟩
  obtain ⟨S', h1, h2⟩ := h.next hB hD hO
  exact ⟨S', rfl, h1, h2⟩
theorem Off_D (h : Dev S B W g d) (hB : B ≤ W.heap.size) (hu : d.Up k) {keep : Int} {torn : Bool} (he : d.off keep torn = d') :
    Calls Try.prog 16 #[.pointer (some ⟨g, 0, none⟩), .int .i64 keep, .bool torn] W fun e W' => ∃ S', e = .returned (.tuple #[]) ∧ Dev S' B W' g d' ∧ Step S W S' W' := by
  obtain ⟨mb, n, D, bl, vl, hd⟩ := h.at_
  refine (Off_Q hd hu.toFit keep torn).mono ?_
  rw [he]
  rintro e W' ⟨rfl, hD, hO⟩
  obtain ⟨S', h1, h2⟩ := h.next hB hD hO
  exact ⟨S', rfl, h1, h2⟩
theorem On_D (h : Dev S B W g d) (hB : B ≤ W.heap.size) :
    Calls Try.prog 17 #[.pointer (some ⟨g, 0, none⟩)] W fun e W' => ∃ S', e = .returned (.tuple #[]) ∧ Dev S' B W' g d.on ∧ Step S W S' W' := by
  refine (On_Q h.at_).mono ?_
  rintro e W' ⟨rfl, hD, hO⟩
  obtain ⟨S', h1, h2⟩ := h.next hB hD hO
  exact ⟨S', rfl, h1, h2⟩
theorem Arm_D (h : Dev S B W g d) (hB : B ≤ W.heap.size) {j keep : Int} {torn : Bool} :
    Calls Try.prog 14 #[.pointer (some ⟨g, 0, none⟩), .int .i64 j, .int .i64 keep, .bool torn] W fun e W' => ∃ S', e = .returned (.tuple #[]) ∧ Dev S' B W' g (d.arm j keep torn) ∧ Step S W S' W' := by
  refine (Arm_Q h.at_ j keep torn).mono ?_
  rintro e W' ⟨rfl, hD, hO⟩
  obtain ⟨S', h1, h2⟩ := h.next hB hD hO
  exact ⟨S', rfl, h1, h2⟩
theorem Read_D (h : Dev S B W g d) (hu : d.Up k) (he : d.read s = (xs, r)) :
    Calls Try.prog 13 #[.pointer (some ⟨g, 0, none⟩), .string s] W fun e W' => ∃ A c, e = .returned (.tuple #[.slice A xs.length c, .int .i64 r]) ∧ bK.R 5 W' W.heap.size (fun _ => True) (.slice A xs.length c) xs ∧ Dev S B W' g d ∧ Below W.heap.size W W' := by
  obtain ⟨mb, n, D, bl, vl, hd⟩ := h.at_
  unfold DS.read at he
  by_cases ht : d.there s = 0
  · rw [if_neg (fun h => h ht)] at he
    injection he with e1 e2
    subst e1
    subst e2
    refine (Read_2 hd hu.toFit s ht).mono ?_
    rintro e W' ⟨⟨v, rfl, hr⟩, hb⟩
    obtain ⟨A, cc, ev⟩ := Kd.R_slice hr
    subst ev
    exact ⟨A, cc, rfl, hr, h.below hb, hb⟩
  · rw [if_pos ht] at he
    injection he with e1 e2
    subst e1
    subst e2
    refine (Read_1 hd s ht).mono ?_
    rintro e W' ⟨rfl, hb⟩
    exact ⟨none, 0, rfl, Kd.R_nil _ _ _ _ _, h.below hb, hb⟩
theorem Free_D (h : Dev S B W g d) (hu : d.Up k) :
    Calls Try.prog 22 #[.pointer (some ⟨g, 0, none⟩)] W fun e W' => e = .returned (.int .i64 d.free) ∧ Dev S B W' g d ∧ Below W.heap.size W W' := by
  obtain ⟨mb, n, D, bl, vl, hd⟩ := h.at_
  refine (Free_Q hd hu.toFit).mono ?_
  rintro e W' ⟨rfl, hb⟩
  exact ⟨rfl, h.below hb, hb⟩
end
end Go.Proofs.Ytoedkemjidgbeaa.Dk
