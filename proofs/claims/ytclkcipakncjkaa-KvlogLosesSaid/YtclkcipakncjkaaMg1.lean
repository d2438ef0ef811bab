/- Joined texts of this claim, in build order. -/
import Derived.Test.YtclkcipakncjkaaMg0
import Derived.Test.YtclkcipakncjkaaPAllx
import Derived.Test.YtclkcipakncjkaaPw
import Derived.Laws.BitsAllLaws
import Derived.Deep.RegionLaw
import Derived.Lib.SlicesDelete
import Derived.Lib.SliceRun
namespace Go.Proofs.Ytclkcipakncjkaa.Dk
open Go Go.RowKit Go.Proofs.YtclkcipakncjkaaW.PrintWords Go.Proofs.YtclkcipakncjkaaW.PrintLast Go.Proofs.YtclkcipakncjkaaW.PrintMore Go.Proofs.YtclkcipakncjkaaMy Go.Proofs.Ytclkcipakncjkaa Go.Proofs.YtclkcipakncjkaaPw Go.Proofs.Ytclkcipakncjkaa.PAll
set_option linter.unusedVariables false
set_option linter.unusedSimpArgs false
structure DS.Up (k : Int) (d : DS) : Prop extends DS.Fit d where
  once : Once d.files
  acts : 0 ≤ d.acts ∧ d.acts ≤ k
  fuse : 0 ≤ d.fuse ∧ d.fuse ≤ 9223372036854775807
namespace DS
variable {d : DS} {k : Int}
theorem Up.ok (h : d.Up k) (hk : k < 4611686018427387904) : d.Ok := ⟨h.toFit, ⟨h.acts.1, by have := h.acts.2; omega⟩, h.fuse⟩
theorem Up.mono (h : d.Up k) {j : Int} (hj : k ≤ j) : d.Up j := ⟨h.toFit, h.once, ⟨h.acts.1, Int.le_trans h.acts.2 hj⟩, h.fuse⟩
theorem Up.more (h : d.Up k) : d.Up (k + 1) := h.mono (by omega)
theorem Up.new (room : Int) : (Dk.new room).Up 0 := ⟨Fit.new room, List.nodup_nil, ⟨Int.le_refl _, Int.le_refl _⟩, ⟨Int.le_refl _, show (0 : Int) ≤ 9223372036854775807 by decide⟩⟩
theorem act_fuse (h : 0 ≤ d.fuse ∧ d.fuse ≤ 9223372036854775807) : 0 ≤ d.act.fuse ∧ d.act.fuse ≤ 9223372036854775807 := by
  unfold DS.act
  simp only
  split <;> omega
theorem Up.act (h : d.Up k) : d.act.Up (k + 1) := ⟨h.toFit.act, h.once, ⟨by have := h.acts.1; show 0 ≤ d.acts + 1; omega, by have := h.acts.2; show d.acts + 1 ≤ k + 1; omega⟩, act_fuse h.fuse⟩
theorem Up.off (h : d.Up k) (keep : Int) (torn : Bool) : (d.off keep torn).Up k := by
  refine ⟨h.toFit.off keep torn, ?_, ?_, ?_⟩
  · unfold DS.off
    split
    · exact h.once
    · exact lose_once h.once keep torn
  · unfold DS.off
    split <;> exact h.acts
  · unfold DS.off
    split
    · exact h.fuse
    · exact ⟨Int.le_refl _, by simp⟩
theorem Up.on (h : d.Up k) : d.on.Up k := ⟨h.toFit.on, h.once, h.acts, h.fuse⟩
theorem Up.arm (h : d.Up k) (n keep : Int) (torn : Bool) (hn : n ≤ 9223372036854775807) : (d.arm n keep torn).Up k := ⟨h.toFit.arm n keep torn, h.once, h.acts, by show 0 ≤ max n 0 ∧ max n 0 ≤ 9223372036854775807; omega⟩
theorem Up.putF (h : d.Up k) {f : Fl} (hf : (d.put f).Fit) : (d.put f).Up k := ⟨hf, putF_once h.once f, h.acts, h.fuse⟩
theorem Up.dropF (h : d.Up k) (s : ByteArray) : (d.drop s).Up k := ⟨h.toFit.drop s, delF_once h.once s, h.acts, h.fuse⟩
theorem Up.append (h : d.Up k) (s : ByteArray) {xs : List Int} (hx : ∀ x ∈ xs, 0 ≤ x ∧ x ≤ 255) : (d.append s xs).2.Up (k + 1) := by
  unfold DS.append
  split
  · exact h.more
  · split
    · exact h.more
    · next hl =>
      have h1 := h.act.putF (h.toFit.act.append h.once s hx (Int.not_lt.1 hl))
      simp only
      split
      · exact h1.off _ _
      · exact h1
theorem Up.sync (h : d.Up k) (s : ByteArray) : (d.sync s).2.Up (k + 1) := by
  unfold DS.sync
  split
  · exact h.more
  · next ht =>
    obtain ⟨f, hf⟩ := (there_ready (Decidable.of_not_not ht)).2
    split
    · exact h.act.off _ _
    · rw [fileOr_some hf]
      exact h.act.putF (h.toFit.act.less h.once (f := f) (findF_some hf).1 rfl (fun _ h => h) (Nat.le_refl _))
theorem Up.fall (h : d.Up k) {done : DS → DS} (hd : (done d.act).Up (k + 1)) : (d.fall done).2.Up (k + 1) := by
  unfold DS.fall
  split
  · simp only
    split
    · exact hd.off _ _
    · exact h.act.off _ _
  · exact hd
theorem Up.cut (h : d.Up k) (s : ByteArray) (n : Int) : (d.cut s n).2.Up (k + 1) := by
  unfold DS.cut
  split
  · exact h.more
  · next ht =>
    obtain ⟨f, hf⟩ := (there_ready (Decidable.of_not_not ht)).2
    split
    · exact h.more
    · refine h.fall ?_
      rw [file_fileOr hf]
      exact h.act.putF (h.toFit.act.less h.once (f := f) (findF_some hf).1 rfl (fun x hx => List.mem_of_mem_take hx) (by unfold cutTo; rw [List.length_take]; omega))
theorem Up.rename (h : d.Up k) (a b : ByteArray) : (d.rename a b).2.Up (k + 1) := by
  unfold DS.rename
  split
  · exact h.more
  · next ht =>
    obtain ⟨f, hf⟩ := (there_ready (Decidable.of_not_not ht)).2
    split
    · exact h.more
    · refine h.fall ?_
      rw [file_fileOr hf]
      obtain ⟨hm, rfl⟩ := findF_some hf
      exact (h.act.dropF f.name).putF (h.toFit.act.move h.once hm b)
theorem Up.remove (h : d.Up k) (s : ByteArray) : (d.remove s).2.Up (k + 1) := by
  unfold DS.remove
  split
  · exact h.more
  · exact h.fall (h.act.dropF s)
end DS
structure Dev (S : Nat → Prop) (B : Nat) (W : World) (g : Nat) (d : DS) : Prop where
  at_ : DevAt S W g d
  lo : ∀ k, S k → B ≤ k
  hi : ∀ k, S k → k < W.heap.size
structure Step (S : Nat → Prop) (W : World) (S' : Nat → Prop) (W' : World) : Prop where
  only : Only S W W'
  sub : ∀ k, S' k → S k ∨ W.heap.size ≤ k
theorem DevAt.shrink {S : Nat → Prop} {W : World} {g : Nat} {d : DS} (h : DevAt S W g d) : DevAt (fun k => S k ∧ k < W.heap.size) W g d := by
  obtain ⟨mb, n, D, bl, vl, h⟩ := h
  exact h.shrink.at
section
variable {S S' S2 : Nat → Prop} {B : Nat} {W W' W2 : World} {g : Nat} {d d' : DS}
theorem Dev.next (h : Dev S B W g d) (hB : B ≤ W.heap.size) (hD : DevAt (Grow S W) W' g d') (hO : Only S W W') : ∃ S', Dev S' B W' g d' ∧ Step S W S' W' :=
  ⟨fun k => Grow S W k ∧ k < W'.heap.size, ⟨hD.shrink, fun k hk => hk.1.elim (h.lo k) (fun h => Nat.le_trans hB h), fun k hk => hk.2⟩, hO, fun k hk => hk.1⟩
theorem Dev.move (h : Dev S B W g d) (hs : W.heap.size ≤ W'.heap.size) (hm : ∀ k, S k → W'.heap[k]? = W.heap[k]?) : Dev S B W' g d := by
  obtain ⟨mb, n, D, bl, vl, hd⟩ := h.at_
  exact ⟨(hd.move (fun k hk _ => hm k hk)).at, h.lo, fun k hk => Nat.lt_of_lt_of_le (h.hi k hk) hs⟩
theorem Dev.below (h : Dev S B W g d) (hb : Below W.heap.size W W') : Dev S B W' g d := h.move hb.size (fun k hk => hb.block k (h.hi k hk))
theorem Dev.other (h : Dev S B W g d) (ho : Only S2 W W') (hd : ∀ k, S k → ¬ S2 k) : Dev S B W' g d := h.move ho.size (fun k hk => ho.block k (h.hi k hk) (hd k hk))
theorem Step.below (h : Step S W S' W') (hl : ∀ k, S k → B ≤ k) (hB : B ≤ W.heap.size) : Below B W W' := h.only.toBelow hl hB
abbrev Row (S : Nat → Prop) (W : World) (A : Option Addr) (n : Nat) (xs : List Int) : Prop := Kd.F bK W (fun k => ¬ S k) A n xs
theorem Row.step {A : Option Addr} {n : Nat} {xs : List Int} (h : Row S W A n xs) (hs : Step S W S' W') : Row S' W' A n xs := by
  have h1 := F_only (Kd.F_bound h) hs.only (fun k hk => hk.1)
  exact Kd.F_mono h1 (fun k hk hS => (hs.sub k hS).elim hk.1 (fun h => by have := hk.2; omega))
theorem Row.below {A : Option Addr} {n : Nat} {xs : List Int} (h : Row S W A n xs) (hb : Below W.heap.size W W') : Row S W' A n xs := Kd.F_below h hb
theorem Row.none_ : Row S W none 0 [] := Kd.F_nil bK W _
theorem Row.of {A : Option Addr} {n cc : Nat} {xs : List Int} {e base : Nat} {ok : Nat → Prop} (h : bK.R e W base ok (.slice A n cc) xs) (hb : ∀ k, S k → k < base) : Row S W A n xs := by
  have hb2 := Kd.R_base2 h
  have h2 : bK.R e W base (fun k => ¬ S k) (.slice A n cc) xs := Kd.R_of_own (Kd.own_of_R h) (fun k hk hS => by
    rcases hb2 with h0 | ⟨k2, h3, h4⟩
    · rw [hk] at h0; cases h0
    · rw [hk] at h3
      cases h3
      have := hb k hS
      omega)
  exact Kd.R_F h2
theorem Row.came {A : Option Addr} {n : Nat} {xs : List Int} (h : bK.C W A n xs) (hl : ∀ k, S k → W.heap.size ≤ k) : Row S W A n xs := Kd.F_mono (Kd.C_F (Kd.heap_int .u8) h) (fun k hk hS => by have := hl k hS; omega)
variable {k r : Int} {A : Option Addr} {n c : Nat} {xs : List Int} {s : ByteArray}
theorem New_D (w : World) (room : Int) : Calls Try.prog 11 #[.int .i64 room] w fun e w' => ∃ g S, e = .returned (.pointer (some ⟨g, 0, none⟩)) ∧ Dev S w.heap.size w' g (new room) ∧ Below w.heap.size w w' := by
  refine (New_Q w room).mono ?_
  rintro e w' ⟨g, rfl, hd, hb⟩
  exact ⟨g, _, rfl, ⟨hd.shrink, fun k hk => hk.1, fun k hk => hk.2⟩, hb⟩
theorem Append_D (h : Dev S B W g d) (hB : B ≤ W.heap.size) (hu : d.Up k) (hk : k < 4611686018427387904) (hx : Row S W A n xs) (hn : n ≤ 4294967296) (hxb : ∀ x ∈ xs, 0 ≤ x ∧ x ≤ 255) (he : d.append s xs = (r, d')) :
    Calls Try.prog 49 #[.pointer (some ⟨g, 0, none⟩), .string s, .slice A n c] W fun e W' => ∃ S', e = .returned (.int .i64 r) ∧ Dev S' B W' g d' ∧ Step S W S' W' := by
  refine (Append_Q h.at_ (hu.ok hk) s hx hn hxb).mono ?_
  rw [he]
  rintro e W' ⟨rfl, hD, hO⟩
  obtain ⟨S', h1, h2⟩ := h.next hB hD hO
  exact ⟨S', rfl, h1, h2⟩
theorem Sync_D (h : Dev S B W g d) (hB : B ≤ W.heap.size) (hu : d.Up k) (hk : k < 4611686018427387904) (he : d.sync s = (r, d')) :
    Calls Try.prog 47 #[.pointer (some ⟨g, 0, none⟩), .string s] W fun e W' => ∃ S', e = .returned (.int .i64 r) ∧ Dev S' B W' g d' ∧ Step S W S' W' := by
  refine (Sync_Q h.at_ (hu.ok hk) s).mono ?_
  rw [he]
  rintro e W' ⟨rfl, hD, hO⟩
  obtain ⟨S', h1, h2⟩ := h.next hB hD hO
  exact ⟨S', rfl, h1, h2⟩
theorem Cut_D (h : Dev S B W g d) (hB : B ≤ W.heap.size) (hu : d.Up k) (hk : k < 4611686018427387904) {j : Int} (he : d.cut s j = (r, d')) :
    Calls Try.prog 34 #[.pointer (some ⟨g, 0, none⟩), .string s, .int .i64 j] W fun e W' => ∃ S', e = .returned (.int .i64 r) ∧ Dev S' B W' g d' ∧ Step S W S' W' := by
  refine (Cut_Q h.at_ (hu.ok hk) s j).mono ?_
  rw [he]
  rintro e W' ⟨rfl, hD, hO⟩
  obtain ⟨S', h1, h2⟩ := h.next hB hD hO
  exact ⟨S', rfl, h1, h2⟩
theorem Rename_D (h : Dev S B W g d) (hB : B ≤ W.heap.size) (hu : d.Up k) (hk : k < 4611686018427387904) {b : ByteArray} (he : d.rename s b = (r, d')) :
    Calls Try.prog 50 #[.pointer (some ⟨g, 0, none⟩), .string s, .string b] W fun e W' => ∃ S', e = .returned (.int .i64 r) ∧ Dev S' B W' g d' ∧ Step S W S' W' := by
  refine (Rename_Q h.at_ (hu.ok hk) s b).mono ?_
  rw [he]
  rintro e W' ⟨rfl, hD, hO⟩
  obtain ⟨S', h1, h2⟩ := h.next hB hD hO
  exact ⟨S', rfl, h1, h2⟩
theorem Remove_D (h : Dev S B W g d) (hB : B ≤ W.heap.size) (hu : d.Up k) (hk : k < 4611686018427387904) (he : d.remove s = (r, d')) :
    Calls Try.prog 31 #[.pointer (some ⟨g, 0, none⟩), .string s] W fun e W' => ∃ S', e = .returned (.int .i64 r) ∧ Dev S' B W' g d' ∧ Step S W S' W' := by
  refine (Remove_Q h.at_ (hu.ok hk) s).mono ?_
  rw [he]
  rintro e W' ⟨rfl, hD, hO⟩
  obtain ⟨S', h1, h2⟩ := h.next hB hD hO
  exact ⟨S', rfl, h1, h2⟩
theorem Off_D (h : Dev S B W g d) (hB : B ≤ W.heap.size) (hu : d.Up k) {keep : Int} {torn : Bool} (he : d.off keep torn = d') :
    Calls Try.prog 29 #[.pointer (some ⟨g, 0, none⟩), .int .i64 keep, .bool torn] W fun e W' => ∃ S', e = .returned (.tuple #[]) ∧ Dev S' B W' g d' ∧ Step S W S' W' := by
  obtain ⟨mb, n, D, bl, vl, hd⟩ := h.at_
  refine (Off_Q hd hu.toFit keep torn).mono ?_
  rw [he]
  rintro e W' ⟨rfl, hD, hO⟩
  obtain ⟨S', h1, h2⟩ := h.next hB hD hO
  exact ⟨S', rfl, h1, h2⟩
theorem On_D (h : Dev S B W g d) (hB : B ≤ W.heap.size) :
    Calls Try.prog 30 #[.pointer (some ⟨g, 0, none⟩)] W fun e W' => ∃ S', e = .returned (.tuple #[]) ∧ Dev S' B W' g d.on ∧ Step S W S' W' := by
  refine (On_Q h.at_).mono ?_
  rintro e W' ⟨rfl, hD, hO⟩
  obtain ⟨S', h1, h2⟩ := h.next hB hD hO
  exact ⟨S', rfl, h1, h2⟩
theorem Arm_D (h : Dev S B W g d) (hB : B ≤ W.heap.size) {j keep : Int} {torn : Bool} :
    Calls Try.prog 27 #[.pointer (some ⟨g, 0, none⟩), .int .i64 j, .int .i64 keep, .bool torn] W fun e W' => ∃ S', e = .returned (.tuple #[]) ∧ Dev S' B W' g (d.arm j keep torn) ∧ Step S W S' W' := by
  refine (Arm_Q h.at_ j keep torn).mono ?_
  rintro e W' ⟨rfl, hD, hO⟩
  obtain ⟨S', h1, h2⟩ := h.next hB hD hO
  exact ⟨S', rfl, h1, h2⟩
theorem Read_D (h : Dev S B W g d) (hu : d.Up k) (he : d.read s = (xs, r)) :
    Calls Try.prog 18 #[.pointer (some ⟨g, 0, none⟩), .string s] W fun e W' => ∃ A c, e = .returned (.tuple #[.slice A xs.length c, .int .i64 r]) ∧ bK.R 5 W' W.heap.size (fun _ => True) (.slice A xs.length c) xs ∧ Dev S B W' g d ∧ Below W.heap.size W W' := by
  obtain ⟨mb, n, D, bl, vl, hd⟩ := h.at_
  unfold DS.read at he
  by_cases ht : d.there s = 0
  · rw [if_neg (fun h => h ht)] at he
    injection he with e1 e2
    subst e1
    subst e2
    refine (Read_2 hd hu.toFit s ht).mono ?_
    rintro e W' ⟨⟨v, rfl, hr⟩, hb⟩
    obtain ⟨A, cc, ev⟩ := Kd.R_slice hr
    subst ev
    exact ⟨A, cc, rfl, hr, h.below hb, hb⟩
  · rw [if_pos ht] at he
    injection he with e1 e2
    subst e1
    subst e2
    refine (Read_1 hd s ht).mono ?_
    rintro e W' ⟨rfl, hb⟩
    exact ⟨none, 0, rfl, Kd.R_nil _ _ _ _ _, h.below hb, hb⟩
end
end Go.Proofs.Ytclkcipakncjkaa.Dk
namespace Go.Proofs.Ytclkcipakncjkaa.Fr
open Go Go.RowKit Go.Proofs.Ytclkcipakncjkaa.PAll Go.Proofs.YtclkcipakncjkaaW.PrintWords Go.Proofs.YtclkcipakncjkaaW.PrintLast Go.Proofs.YtclkcipakncjkaaPw
end Go.Proofs.Ytclkcipakncjkaa.Fr
namespace Go.Proofs.Ytclkcipakncjkaa.Co
open Go Go.Proofs.Ytclkcipakncjkaa.Fr Go.RowKit Go.Proofs.Ytclkcipakncjkaa.PAll Go.Proofs.YtclkcipakncjkaaW.PrintWords Go.Proofs.YtclkcipakncjkaaW.PrintLast Go.Proofs.YtclkcipakncjkaaPw
def num8 (n : Int) : List Int := [IntKind.u64.wrap n / 72057594037927936 % 256, IntKind.u64.wrap n / 281474976710656 % 256, IntKind.u64.wrap n / 1099511627776 % 256, IntKind.u64.wrap n / 4294967296 % 256, IntKind.u64.wrap n / 16777216 % 256, IntKind.u64.wrap n / 65536 % 256, IntKind.u64.wrap n / 256 % 256, IntKind.u64.wrap n % 256]
theorem u64_range (n : Int) : 0 ≤ IntKind.u64.wrap n ∧ IntKind.u64.wrap n < 18446744073709551616 := by
  unfold IntKind.wrap
  simp only [IntKind.bits, IntKind.signed]
  simp
  omega
theorem u64_id {n : Int} (h0 : 0 ≤ n) (h1 : n < 18446744073709551616) : IntKind.u64.wrap n = n := by
  unfold IntKind.wrap
  simp only [IntKind.bits, IntKind.signed]
  simp
  omega
theorem byt_num8 (n : Int) : Byt (num8 n) := by
  intro x hx
  simp only [num8, List.mem_cons, List.not_mem_nil, or_false] at hx
  omega
theorem num8_length (n : Int) : (num8 n).length = 8 := rfl
def be : Int → List Int → Int
  | x, [] => x
  | x, b :: l => be (x * 256 + b) l
def uv (l : List Int) : Int := be 0 (l.take 8)
theorem be_append : ∀ (l m : List Int) (x : Int), be x (l ++ m) = be (be x l) m
  | [], _, _ => rfl
  | _ :: l, m, _ => be_append l m _
theorem eight {l : List Int} (h : 8 ≤ l.length) : ∃ a b c d e f g i r, l = a :: b :: c :: d :: e :: f :: g :: i :: r := by
  match l, h with
  | a :: b :: c :: d :: e :: f :: g :: i :: r, _ => exact ⟨a, b, c, d, e, f, g, i, r, rfl⟩
theorem uv_num8 (n : Int) (r : List Int) : uv (num8 n ++ r) = IntKind.u64.wrap n := by
  have h := u64_range n
  simp only [uv, num8, List.cons_append, List.nil_append, List.take_succ_cons, List.take_zero, be]
  generalize IntKind.u64.wrap n = u at h
  omega
theorem num8_uv {l : List Int} (hb : Byt l) (h : 8 ≤ l.length) : 0 ≤ uv l ∧ uv l < 18446744073709551616 ∧ num8 (uv l) = l.take 8 := by
  obtain ⟨a, b, c, d, e, f, g, i, r, rfl⟩ := eight h
  have ha := hb a (by simp)
  have h1 := hb b (by simp)
  have h2 := hb c (by simp)
  have h3 := hb d (by simp)
  have h4 := hb e (by simp)
  have h5 := hb f (by simp)
  have h6 := hb g (by simp)
  have h7 := hb i (by simp)
  have hu : uv (a :: b :: c :: d :: e :: f :: g :: i :: r) = ((((((a * 256 + b) * 256 + c) * 256 + d) * 256 + e) * 256 + f) * 256 + g) * 256 + i := by
    simp only [uv, List.take_succ_cons, List.take_zero, be]
    omega
  rw [hu]
  refine ⟨by omega, by omega, ?_⟩
  unfold num8
  rw [u64_id (by omega) (by omega)]
  simp only [List.take_succ_cons, List.take_zero, List.cons.injEq, and_true]
  omega
def flat (ps : List (List Int)) : List Int := ps.flatMap fun p => num8 p.length ++ p
def joinL (ps : List (List Int)) : List Int := num8 ps.length ++ flat ps
theorem flat_cons (p : List Int) (ps : List (List Int)) : flat (p :: ps) = num8 p.length ++ (p ++ flat ps) := by simp [flat]
def parts : Nat → List Int → Option (List (List Int))
  | 0, l => if l.length = 0 then some [] else none
  | k + 1, l => if l.length < 8 then none else if (l.length : Int) - 8 < uv l then none else (parts k (l.drop (8 + (uv l).toNat))).map (((l.drop 8).take (uv l).toNat) :: ·)
def splitL (l : List Int) : Option (List (List Int)) := if l.length < 8 then none else parts (uv l).toNat (l.drop 8)
theorem parts_le : ∀ (k : Nat) (l : List Int) (ps : List (List Int)), Byt l → parts k l = some ps → 8 * k ≤ l.length
  | 0, _, _, _, _ => by omega
  | k + 1, l, ps, hb, h => by
    unfold parts at h
    split at h
    · cases h
    · split at h
      · cases h
      · obtain ⟨qs, hq, _⟩ := Option.map_eq_some_iff.1 h
        have := parts_le k _ qs (byt_drop hb _) hq
        rw [List.length_drop] at this
        omega
theorem parts_flat : ∀ (ps : List (List Int)) (t : List Int), (∀ p ∈ ps, p.length < 9223372036854775808) → parts ps.length (flat ps ++ t) = if t.length = 0 then some ps else none
  | [], t, _ => by simp [flat, parts]
  | p :: ps, t, h => by
    have hp := h p (by simp)
    rw [flat_cons, List.append_assoc, List.length_cons, parts, uv_num8, u64_id (by omega) (by omega), if_neg (by rw [List.length_append, num8_length]; omega), if_neg (by simp [num8_length]; omega)]
    rw [Int.toNat_natCast, List.append_assoc, ← List.drop_drop, show (num8 (p.length : Int) ++ (p ++ (flat ps ++ t))).drop 8 = p ++ (flat ps ++ t) from rfl, List.drop_left, List.take_left, parts_flat ps t (fun q hq => h q (by simp [hq]))]
    split <;> simp
theorem splitL_join (ps : List (List Int)) (h : ∀ p ∈ ps, p.length < 9223372036854775808) (hl : ps.length < 9223372036854775808) (t : List Int) : splitL (joinL ps ++ t) = if t.length = 0 then some ps else none := by
  unfold splitL joinL
  rw [List.append_assoc, uv_num8, u64_id (by omega) (by omega), if_neg (by rw [List.length_append, num8_length]; omega), Int.toNat_natCast]
  exact parts_flat ps t h
theorem flat_length (ps : List (List Int)) : (flat ps).length = 8 * ps.length + (ps.map List.length).sum := by
  induction ps with
  | nil => rfl
  | cons p ps ih => rw [flat_cons, List.length_append, List.length_append, num8_length, ih]; simp; omega
theorem byt_flat {ps : List (List Int)} (h : ∀ p ∈ ps, Byt p) : Byt (flat ps) := by
  intro x hx
  simp only [flat, List.mem_flatMap] at hx
  obtain ⟨p, hp, hx⟩ := hx
  exact byt_append (byt_num8 _) (h p hp) x hx
theorem byt_join {ps : List (List Int)} (h : ∀ p ∈ ps, Byt p) : Byt (joinL ps) := byt_append (byt_num8 _) (byt_flat h)
theorem num_eq (n : Int) : code_Num.f n = some (strOfNums (num8 n)) := rfl
theorem or_u64 (x b : Int) (h0 : 0 ≤ x) (h1 : x < 72057594037927936) (h2 : 0 ≤ b) (h3 : b < 256) : Go.bits .or .u64 (IntKind.u64.wrap (x * 256)) (IntKind.u64.wrap b) = x * 256 + b := by
  rw [u64_id (by omega) (by omega), u64_id (by omega) (by omega), u64_or _ _ (by omega) (by omega) (by omega) (by omega)]
  obtain ⟨x, rfl⟩ := Int.eq_ofNat_of_zero_le h0
  obtain ⟨b, rfl⟩ := Int.eq_ofNat_of_zero_le h2
  have e1 : ((x : Int) * 256).toNat = 2 ^ 8 * x := by omega
  have e2 : ((b : Int)).toNat = b := by omega
  rw [e1, e2, ← Nat.two_pow_add_eq_or_of_lt (by omega)]
  omega
theorem be_range : ∀ (l : List Int) (x : Int) (m : Int), Byt l → 0 ≤ x → x < m → 0 ≤ be x l ∧ be x l < m * 256 ^ l.length
  | [], x, m, _, h0, h1 => ⟨h0, by rw [List.length_nil, Int.pow_zero, Int.mul_one]; exact h1⟩
  | b :: l, x, m, hb, h0, h1 => by
    have h := hb b (by simp)
    have := be_range l (x * 256 + b) (m * 256) (fun y hy => hb y (by simp [hy])) (by omega) (by omega)
    rw [List.length_cons, Int.pow_succ, Int.mul_comm (256 ^ l.length) 256, ← Int.mul_assoc]
    exact this
theorem take_succ_bytes (s : ByteArray) (i : Nat) (h : i < s.size) : (bytesOf s).take (i + 1) = (bytesOf s).take i ++ [bt s i] := by
  have hl : i < (bytesOf s).length := by rw [bytesOf_length]; exact h
  rw [List.take_succ_eq_append_getElem hl]
  congr 2
  rw [← bytesOf_getD, List.getD_eq_getElem?_getD, List.getElem?_eq_getElem hl]
  rfl
theorem pow_le (i : Nat) (h : i < 8) : (256 : Int) ^ i ≤ 72057594037927936 := by
  match i, h with
  | 0, _ | 1, _ | 2, _ | 3, _ | 4, _ | 5, _ | 6, _ | 7, _ => decide
theorem be_take_range (s : ByteArray) (i : Nat) (h : i < 8) (hs : 8 ≤ s.size) : 0 ≤ be 0 ((bytesOf s).take i) ∧ be 0 ((bytesOf s).take i) < 72057594037927936 := by
  have r := be_range ((bytesOf s).take i) 0 1 (byt_take (byt_bytesOf s) i) (by omega) (by omega)
  rw [List.length_take, bytesOf_length, show min i s.size = i by omega, Int.one_mul] at r
  have := pow_le i h
  omega
theorem read_l0 (s : ByteArray) (hs : 8 ≤ s.size) : ∀ (d i : Nat), i + d = 8 →
    Ev (fun k => code_ReadNum.l0 k s (be 0 ((bytesOf s).take i)) (i : Int)) (wrap64 (uv (bytesOf s)), true)
  | 0, i, hd => by
    obtain rfl : i = 8 := by omega
    exact Ev.step (fun _ => code_ReadNum.l0.eq_2 ..) (ev_neg (by omega) (ev_ret rfl))
  | d + 1, i, hd => by
    have r := be_take_range s i (by omega) hs
    have b := bt_range s i
    refine Ev.step (fun _ => code_ReadNum.l0.eq_2 ..) (ev_pos (by omega) (ev_pos (by omega) (ev_pos (by omega) ?_)))
    rw [or_u64 _ _ r.1 r.2 b.1 (by omega), w64 (by omega) (by omega)]
    have ih := read_l0 s hs d (i + 1) (by omega)
    rw [take_succ_bytes s i (by omega), be_append] at ih
    exact ih
theorem read_ev (s : ByteArray) : Ev (fun k => code_ReadNum.f k s) (if s.size < 8 then (0, false) else (wrap64 (uv (bytesOf s)), true)) := by
  by_cases h : s.size < 8
  · rw [if_pos h]; exact ev_pos (by omega) (Ev.now _)
  · rw [if_neg h]
    exact ev_neg (by omega) (read_l0 s (by omega) 8 0 (by omega))
theorem rnumber_l0 (s : ByteArray) (hs : 8 ≤ s.size) : ∀ (d i : Nat), i + d = 8 →
    ∃ q b, Ev (fun k => seicheref01_number.l0 k s (be 0 ((bytesOf s).take i)) (i : Int)) (q, b) ∧ b = decide (uv (bytesOf s) ≤ 1099511627776) ∧ (b = true → q = uv (bytesOf s))
  | 0, i, hd => by
    obtain rfl : i = 8 := by omega
    exact ⟨_, _, Ev.step (fun _ => seicheref01_number.l0.eq_2 ..) (ev_neg (by omega) (Ev.now _)), rfl, fun _ => rfl⟩
  | d + 1, i, hd => by
    have r := be_take_range s i (by omega) hs
    have b := bt_range s i
    by_cases c : be 0 ((bytesOf s).take i) > 1099511627776
    · refine ⟨_, _, Ev.step (fun _ => seicheref01_number.l0.eq_2 ..) (ev_pos (by omega) (ev_pos c (Ev.now _))), ?_, fun h => by cases h⟩
      have mono : ∀ (l : List Int) (x : Int), Byt l → 0 ≤ x → x ≤ be x l := by
        intro l
        induction l with
        | nil => intro x _ _; exact Int.le_refl _
        | cons y l ih =>
          intro x hb h0
          have hy := hb y (by simp)
          have := ih (x * 256 + y) (fun z hz => hb z (by simp [hz])) (by omega)
          unfold be
          omega
      have e : uv (bytesOf s) = be (be 0 ((bytesOf s).take i)) (((bytesOf s).take 8).drop i) := by
        rw [uv, ← be_append]
        congr 1
        rw [show (bytesOf s).take i = ((bytesOf s).take 8).take i by rw [List.take_take]; congr 1; omega, List.take_append_drop]
      have := mono (((bytesOf s).take 8).drop i) (be 0 ((bytesOf s).take i)) (byt_drop (byt_take (byt_bytesOf s) _) _) (by omega)
      rw [decide_eq_false (by omega)]
    · obtain ⟨q, bb, h, h1, h2⟩ := rnumber_l0 s hs d (i + 1) (by omega)
      refine ⟨q, bb, Ev.step (fun _ => seicheref01_number.l0.eq_2 ..) (ev_pos (by omega) (ev_neg c (ev_pos (by omega) (ev_pos (by omega) ?_)))), h1, h2⟩
      rw [w64 (x := 256 * be 0 ((bytesOf s).take i)) (by omega) (by omega), w64 (x := bt s (i : Int)) (by omega) (by omega), w64 (x := 256 * be 0 ((bytesOf s).take i) + bt s (i : Int)) (by omega) (by omega), w64 (x := (i : Int) + 1) (by omega) (by omega)]
      rw [take_succ_bytes s i (by omega), be_append] at h
      rw [Int.mul_comm 256]
      exact h
theorem rnumber_ev (s : ByteArray) : ∃ q b, Ev (fun k => seicheref01_number.f k s) (q, b) ∧ b = (decide (8 ≤ s.size) && decide (uv (bytesOf s) ≤ 1099511627776)) ∧ (b = true → q = uv (bytesOf s)) := by
  by_cases h : s.size < 8
  · exact ⟨_, _, ev_pos (by omega) (Ev.now _), by simp; omega, fun h => by cases h⟩
  · obtain ⟨q, b, h1, h2, h3⟩ := rnumber_l0 s (by omega) 8 0 (by omega)
    exact ⟨q, b, ev_neg (by omega) h1, by rw [h2, decide_eq_true (by omega : 8 ≤ s.size), Bool.true_and], h3⟩
theorem mn_eq (a b : Int) : mn a b = if a ≤ b then a else b := by unfold mn; split <;> split <;> omega
theorem split_l0 (count : Nat) (hc : count ≤ 1048576) : ∀ (d i : Nat) (acc : List ByteArray) (s : ByteArray), i + d = count → acc.length ≤ i → s.size ≤ 1048576 →
    Ev (fun k => code_Split.l0 k acc s (count : Int) (i : Int)) (match parts d (bytesOf s) with | some ps => (acc ++ ps.map strOfNums, 0) | none => ([], 4))
  | 0, i, acc, s, hd, _, hs => by
    have hl := bytesOf_length s
    refine Ev.step (fun _ => code_Split.l0.eq_2 ..) (ev_neg (by omega) ?_)
    by_cases h : s.size = 0
    · have e : s = ⟨#[]⟩ := bytes_inj (by rw [List.eq_nil_of_length_eq_zero (show (bytesOf s).length = 0 by omega)]; rfl)
      subst e
      exact ev_pos (by simp [ba_toList]) (ev_ret (by simp [parts, bytesOf]))
    · refine ev_neg (fun e => h ?_) (ev_ret ?_)
      · rw [ba_toList] at e
        have := congrArg List.length e
        simpa using this
      · unfold parts
        rw [if_neg (by omega)]
  | d + 1, i, acc, s, hd, ha, hs => by
    have hl := bytesOf_length s
    refine Ev.step (fun _ => code_Split.l0.eq_2 ..) (ev_pos (by omega) (ev_call (read_ev s) ?_))
    unfold parts
    by_cases h : s.size < 8
    · rw [if_pos h, if_pos (by omega)]
      exact ev_neg (by simp) (Ev.now _)
    rw [if_neg h, if_neg (by omega)]
    have hn := num8_uv (byt_bytesOf s) (by omega)
    refine ev_pos rfl ?_
    by_cases h2 : (s.size : Int) - 8 < uv (bytesOf s)
    · rw [if_pos (by rw [hl]; exact h2)]
      by_cases h3 : wrap64 (uv (bytesOf s)) < 0
      · exact ev_pos h3 (Ev.now _)
      · refine ev_neg h3 (ev_pos ?_ (Ev.now _))
        rw [w64 (x := (s.size : Int) - 8) (by omega) (by omega)]
        unfold wrap64 at h3 ⊢
        dsimp only
        omega
    rw [if_neg (by rw [hl]; exact h2), w64 (x := uv (bytesOf s)) (by omega) (by omega), w64 (x := (s.size : Int) - 8) (by omega) (by omega)]
    dsimp only
    rw [w64 (x := 8 + uv (bytesOf s)) (by omega) (by omega)]
    obtain ⟨n, en⟩ := Int.eq_ofNat_of_zero_le hn.1
    rw [en] at h2 ⊢
    refine ev_neg (by omega) (ev_neg (by omega) (ev_pos (by omega) (ev_pos (by omega) (ev_pos (by omega) (ev_pos (by omega) ?_)))))
    rw [show (8 + (n : Int)).toNat = 8 + n by omega, w64 (x := (i : Int) + 1) (by omega) (by omega), Int.toNat_natCast]
    have ih := split_l0 count hc d (i + 1) (acc ++ [s.extract 8 (8 + n)]) (s.extract (8 + n) s.size) (by omega) (by simp; omega) (by rw [← bytesOf_length, bytesOf_extract, List.length_drop, List.length_take, bytesOf_length]; omega)
    have e1 : bytesOf (s.extract (8 + n) s.size) = (bytesOf s).drop (8 + n) := by rw [bytesOf_extract, ← hl, List.take_length]
    have e2 : s.extract 8 (8 + n) = strOfNums (((bytesOf s).drop 8).take n) := by
      apply bytes_inj
      rw [bytes_str (byt_take (byt_drop (byt_bytesOf s) _) _), bytesOf_extract, List.drop_take]
      congr 1
      omega
    rw [e1] at ih
    cases hp : parts d ((bytesOf s).drop (8 + n)) with
    | none => rw [hp] at ih; exact ih
    | some ps => rw [hp, e2] at ih; rw [e2]; simpa using ih
theorem split_ev (s : ByteArray) : Ev (fun k => code_Split.f k s) (if s.size > 1048576 then ([], 3) else match splitL (bytesOf s) with | some ps => (ps.map strOfNums, 0) | none => ([], 4)) := by
  have hl := bytesOf_length s
  by_cases h0 : s.size > 1048576
  · rw [if_pos h0]; exact ev_pos (by omega) (Ev.now _)
  rw [if_neg h0]
  refine ev_neg (by omega) (ev_call (read_ev s) ?_)
  have bad : Ev (fun k => code_Split.j0 k s (if s.size < 8 then ((0, false) : Int × Bool) else (wrap64 (uv (bytesOf s)), true)).1 true) ([], 4) := Ev.step (fun _ => code_Split.j0.eq_2 ..) (ev_pos rfl (Ev.now _))
  unfold splitL
  by_cases h : s.size < 8
  · rw [if_pos h] at bad ⊢
    rw [if_pos (by omega)]
    exact ev_neg (by simp) bad
  rw [if_neg h] at bad ⊢
  rw [if_neg (by omega)]
  have hn := num8_uv (byt_bytesOf s) (by omega)
  refine ev_pos rfl ?_
  have no : ¬ (uv (bytesOf s) ≤ (s.size : Int) / 8) → parts (uv (bytesOf s)).toNat ((bytesOf s).drop 8) = none := fun c => by
    cases hp : parts (uv (bytesOf s)).toNat ((bytesOf s).drop 8) with
    | none => rfl
    | some ps =>
      have := parts_le _ _ ps (byt_drop (byt_bytesOf s) 8) hp
      rw [List.length_drop] at this
      omega
  by_cases h3 : wrap64 (uv (bytesOf s)) < 0
  · rw [no (by unfold wrap64 at h3; omega)]
    exact ev_pos h3 bad
  refine ev_neg h3 ?_
  rw [w64 (x := (s.size : Int) / 8) (by omega) (by omega)]
  by_cases h4 : wrap64 (uv (bytesOf s)) > (s.size : Int) / 8
  · rw [no (by unfold wrap64 at h3 h4; omega), show decide ((wrap64 (uv (bytesOf s)), true).1 > (s.size : Int) / 8) = true from decide_eq_true h4]
    exact bad
  rw [show decide ((wrap64 (uv (bytesOf s)), true).1 > (s.size : Int) / 8) = false from decide_eq_false h4]
  have hw : wrap64 (uv (bytesOf s)) = uv (bytesOf s) := by unfold wrap64 at h3 h4 ⊢; omega
  dsimp only
  rw [hw] at h4 ⊢
  obtain ⟨n, en⟩ := Int.eq_ofNat_of_zero_le hn.1
  rw [en] at h4 ⊢
  have hmn : 0 ≤ mn (n : Int) 4096 ∧ mn (n : Int) 4096 ≤ 4096 := by rw [mn_eq]; split <;> omega
  refine Ev.step (fun _ => code_Split.j0.eq_2 ..) (ev_neg (by simp) (ev_pos hmn.1 (ev_pos (by omega) (ev_pos (by omega) ?_))))
  have e1 : bytesOf (s.extract 8 s.size) = (bytesOf s).drop 8 := by rw [bytesOf_extract, ← hl, List.take_length]
  have := split_l0 n (by omega) n 0 [] (s.extract 8 s.size) (by omega) (by simp) (by rw [← bytesOf_length, e1, List.length_drop]; omega)
  rw [e1] at this
  simpa using this
theorem rsplit_l0 : ∀ (d : Nat) (acc : List ByteArray) (s : ByteArray), d ≤ 1099511627776 → acc.length + s.size ≤ 1048576 →
    ∃ q b, Ev (fun k => seicheref01_Split.l0 k s (d : Int) acc) (q, b) ∧ b = (parts d (bytesOf s)).isSome ∧ ∀ ps, parts d (bytesOf s) = some ps → q = acc ++ ps.map strOfNums
  | 0, acc, s, _, hs => by
    have hl := bytesOf_length s
    refine ⟨_, _, Ev.step (fun _ => seicheref01_Split.l0.eq_2 ..) (ev_neg (by omega) (Ev.now _)), ?_, fun ps h => ?_⟩
    · unfold parts
      by_cases h : s.size = 0
      · have e : s = ⟨#[]⟩ := bytes_inj (by rw [List.eq_nil_of_length_eq_zero (show (bytesOf s).length = 0 by omega)]; rfl)
        subst e
        simp [ba_toList, bytesOf]
      · rw [if_neg (by omega), Option.isSome_none, beq_eq_false_iff_ne]
        intro e
        rw [ba_toList] at e
        have e2 : s = ⟨#[]⟩ := ba_inj (by rw [ba_toList, e, ba_toList])
        exact h (by rw [e2]; rfl)
    · unfold parts at h
      split at h
      · injection h with h; subst h; simp
      · cases h
  | d + 1, acc, s, hd, hs => by
    have hl := bytesOf_length s
    obtain ⟨q, b, hq, hb, hv⟩ := rnumber_ev s
    unfold parts
    by_cases h : s.size < 8
    · rw [if_pos (by omega)]
      rw [decide_eq_false (by omega), Bool.false_and] at hb
      subst hb
      exact ⟨_, _, Ev.step (fun _ => seicheref01_Split.l0.eq_2 ..) (ev_pos (by omega) (ev_call hq (ev_neg (by simp) (Ev.now _)))), rfl, fun ps h => by cases h⟩
    rw [if_neg (by omega)]
    have hn := num8_uv (byt_bytesOf s) (by omega)
    by_cases h2 : (s.size : Int) - 8 < uv (bytesOf s)
    · rw [if_pos (by rw [hl]; exact h2)]
      by_cases h3 : uv (bytesOf s) ≤ 1099511627776
      · rw [decide_eq_true h3, decide_eq_true (by omega), Bool.true_and] at hb
        obtain rfl := hv hb
        clear hv
        subst hb
        exact ⟨_, _, Ev.step (fun _ => seicheref01_Split.l0.eq_2 ..) (ev_pos (by omega) (ev_call hq (ev_pos rfl (ev_pos (by show uv (bytesOf s) > wrap64 ((s.size : Int) - 8); rw [w64 (by omega) (by omega)]; omega) (Ev.now _))))), rfl, fun ps h => by cases h⟩
      · rw [decide_eq_false h3, Bool.and_false] at hb
        subst hb
        exact ⟨_, _, Ev.step (fun _ => seicheref01_Split.l0.eq_2 ..) (ev_pos (by omega) (ev_call hq (ev_neg (by simp) (Ev.now _)))), rfl, fun ps h => by cases h⟩
    rw [if_neg (by rw [hl]; exact h2)]
    rw [decide_eq_true (by omega : uv (bytesOf s) ≤ 1099511627776), decide_eq_true (by omega), Bool.true_and] at hb
    obtain rfl := hv hb
    clear hv
    subst hb
    obtain ⟨n, en⟩ := Int.eq_ofNat_of_zero_le hn.1
    have e1 : bytesOf (s.extract (8 + n) s.size) = (bytesOf s).drop (8 + n) := by rw [bytesOf_extract, ← hl, List.take_length]
    have e2 : s.extract 8 (8 + n) = strOfNums (((bytesOf s).drop 8).take n) := by
      apply bytes_inj
      rw [bytes_str (byt_take (byt_drop (byt_bytesOf s) _) _), bytesOf_extract, List.drop_take]
      congr 1
      omega
    rw [en] at h2 hq ⊢
    have hz : (s.extract (8 + n) s.size).size = s.size - (8 + n) := by rw [← bytesOf_length, e1, List.length_drop, hl]
    obtain ⟨q, b, h1, h3, h4⟩ := rsplit_l0 d (acc ++ [s.extract 8 (8 + n)]) (s.extract (8 + n) s.size) (by omega) (by simp only [List.length_append, List.length_singleton]; omega)
    rw [e1] at h3 h4
    rw [Int.toNat_natCast]
    refine ⟨q, b, Ev.step (fun _ => seicheref01_Split.l0.eq_2 ..) (ev_pos (by omega) (ev_call hq (ev_pos rfl ?_))), by rw [h3, Option.isSome_map], fun ps h => ?_⟩
    · dsimp only
      rw [w64 (x := (s.size : Int) - 8) (by omega) (by omega), w64 (x := 8 + (n : Int)) (by omega) (by omega), w64 (x := ((d + 1 : Nat) : Int) - 1) (by omega) (by omega), show (8 + (n : Int)).toNat = 8 + n by omega, show ((d + 1 : Nat) : Int) - 1 = (d : Int) by omega]
      exact ev_neg (by omega) (ev_pos (by omega) (ev_pos (by omega) (ev_pos (by omega) (ev_pos (by omega) h1))))
    · obtain ⟨qs, hqs, rfl⟩ := Option.map_eq_some_iff.1 h
      rw [h4 qs hqs, e2]
      simp
theorem rsplit_ev (s : ByteArray) (hs : s.size ≤ 1048576) : ∃ q b, Ev (fun k => seicheref01_Split.f k s) (q, b) ∧ b = (splitL (bytesOf s)).isSome ∧ ∀ ps, splitL (bytesOf s) = some ps → q = ps.map strOfNums := by
  have hl := bytesOf_length s
  obtain ⟨q, b, hq, hb, hv⟩ := rnumber_ev s
  unfold splitL
  by_cases h : s.size < 8
  · rw [if_pos (by omega)]
    rw [decide_eq_false (by omega), Bool.false_and] at hb
    subst hb
    exact ⟨_, _, ev_call hq (ev_neg (by simp) (Ev.now _)), rfl, fun ps h => by cases h⟩
  rw [if_neg (by omega)]
  have hn := num8_uv (byt_bytesOf s) (by omega)
  by_cases h3 : uv (bytesOf s) ≤ 1099511627776
  · rw [decide_eq_true h3, decide_eq_true (by omega), Bool.true_and] at hb
    obtain rfl := hv hb
    clear hv
    subst hb
    obtain ⟨n, en⟩ := Int.eq_ofNat_of_zero_le hn.1
    have e1 : bytesOf (s.extract 8 s.size) = (bytesOf s).drop 8 := by rw [bytesOf_extract, ← hl, List.take_length]
    have hz : (s.extract 8 s.size).size = s.size - 8 := by rw [← bytesOf_length, e1, List.length_drop, hl]
    obtain ⟨q, b, h1, h4, h5⟩ := rsplit_l0 n [] (s.extract 8 s.size) (by omega) (by simp only [List.length_nil]; omega)
    rw [e1] at h4 h5
    rw [en] at hq ⊢
    rw [Int.toNat_natCast]
    exact ⟨q, b, ev_call hq (ev_pos rfl (ev_pos (by omega) h1)), h4, fun ps h => by rw [h5 ps h]; simp⟩
  · rw [decide_eq_false h3, Bool.and_false] at hb
    subst hb
    have no : parts (uv (bytesOf s)).toNat ((bytesOf s).drop 8) = none := by
      cases hp : parts (uv (bytesOf s)).toNat ((bytesOf s).drop 8) with
      | none => rfl
      | some ps =>
        have := parts_le _ _ ps (byt_drop (byt_bytesOf s) 8) hp
        rw [List.length_drop] at this
        omega
    rw [no]
    exact ⟨_, _, ev_call hq (ev_neg (by simp) (Ev.now _)), rfl, fun ps h => by cases h⟩
def sizes : List ByteArray → Nat
  | [] => 0
  | s :: l => s.size + sizes l
theorem size_le {l : List ByteArray} {s : ByteArray} (h : s ∈ l) : s.size ≤ sizes l := by
  induction l with
  | nil => cases h
  | cons a l ih =>
    simp only [sizes]
    rcases List.mem_cons.1 h with rfl | h
    · omega
    · have := ih h; omega
theorem map_str (l : List ByteArray) : (l.map bytesOf).map strOfNums = l := by
  rw [List.map_map]
  conv => rhs; rw [← List.map_id l]
  exact List.map_congr_left fun s _ => str_bytes s
def joinB (l : List ByteArray) : List Int := joinL (l.map bytesOf)
theorem byt_joinB (l : List ByteArray) : Byt (joinB l) := byt_join (fun p hp => by obtain ⟨s, _, rfl⟩ := List.mem_map.1 hp; exact byt_bytesOf s)
theorem sum_sizes (l : List ByteArray) : ((l.map bytesOf).map List.length).sum = sizes l := by
  induction l with
  | nil => rfl
  | cons s l ih => simp only [List.map_cons, List.sum_cons, ih, bytesOf_length, sizes]
theorem joinB_length (l : List ByteArray) : (joinB l).length = 8 + 8 * l.length + sizes l := by
  rw [joinB, joinL, List.length_append, num8_length, flat_length, sum_sizes, List.length_map]
  omega
theorem num_size (n : Int) : (strOfNums (num8 n)).size = 8 := by rw [strOfNums_size]; rfl
theorem join_l1 (l : List ByteArray) (hl : l.length < 1099511627776) : ∀ (d i : Nat) (acc : List Int), i + d = l.length → acc.length + 8 * d + sizes (l.drop i) ≤ 1099511627776 →
    Ev (fun k => code_Join.l1 k acc l (l.length : Int) (i : Int)) (strOfNums (acc ++ flat ((l.drop i).map bytesOf)))
  | 0, i, acc, hd, _ => Ev.step (fun _ => code_Join.l1.eq_2 ..) (ev_neg (by omega) (ev_ret (by rw [List.drop_of_length_le (by omega)]; simp [flat])))
  | d + 1, i, acc, hd, hb => by
    rw [drop_rdOf ByteArray.empty l i (by omega)] at hb ⊢
    refine Ev.step (fun _ => code_Join.l1.eq_2 ..) (ev_pos (by omega) (ev_pos (by omega) (ev_pos (by omega) (ev_call (ev_eq (num_eq _)) ?_))))
    generalize rdOf ByteArray.empty l (i : Int) = s at hb ⊢
    simp only [sizes] at hb
    refine ev_pos (by rw [num_size]; omega) (ev_some (ev_pos (by rw [List.length_append, bytesOf_length, num_size]; omega) ?_))
    rw [w64 (by omega) (by omega), bytes_str (byt_num8 _), List.map_cons, flat_cons, bytesOf_length]
    have := join_l1 l hl d (i + 1) (acc ++ num8 (s.size : Int) ++ bytesOf s) (by omega) (by rw [List.length_append, List.length_append, num8_length, bytesOf_length]; omega)
    simpa using this
theorem join_l0 (l : List ByteArray) (hl : l.length < 1099511627776) (hb : 8 * l.length + sizes l ≤ 549755813888) : ∀ (d i : Nat) (n : Nat), i + d = l.length → n + 8 * d + sizes (l.drop i) ≤ 1099511627776 →
    Ev (fun k => code_Join.l0 k l (n : Int) l (l.length : Int) (i : Int)) (strOfNums (joinB l))
  | 0, i, n, hd, hn => by
    refine Ev.step (fun _ => code_Join.l0.eq_2 ..) (ev_neg (by omega) (ev_pos (by omega) (ev_pos (by omega) (ev_some (ev_call (ev_eq (num_eq _)) (ev_pos (by rw [num_size]; simp) ?_))))))
    rw [bytes_str (byt_num8 _)]
    have := join_l1 l hl l.length 0 ([] ++ num8 (l.length : Int)) (by omega) (by rw [List.nil_append, num8_length, List.drop_zero]; omega)
    rw [joinB, joinL, List.length_map]
    simpa using this
  | d + 1, i, n, hd, hn => by
    rw [drop_rdOf ByteArray.empty l i (by omega)] at hn
    refine Ev.step (fun _ => code_Join.l0.eq_2 ..) (ev_pos (by omega) (ev_pos (by omega) (ev_pos (by omega) ?_)))
    generalize rdOf ByteArray.empty l (i : Int) = s at hn ⊢
    simp only [sizes] at hn
    rw [w64 (x := 8 + (s.size : Int)) (by omega) (by omega), w64 (x := (n : Int) + (8 + (s.size : Int))) (by omega) (by omega), w64 (x := (i : Int) + 1) (by omega) (by omega)]
    have := join_l0 l hl hb d (i + 1) (n + (8 + s.size)) (by omega) (by omega)
    rw [show ((n + (8 + s.size) : Nat) : Int) = (n : Int) + (8 + (s.size : Int)) by omega] at this
    exact this
theorem join_ev (l : List ByteArray) (hb : 8 * l.length + sizes l ≤ 549755813888) : Ev (fun k => code_Join.f k l) (strOfNums (joinB l)) :=
  join_l0 l (by omega) hb l.length 0 8 (by omega) (by rw [List.drop_zero]; omega)
def dig : Nat → Int → List Int
  | 0, _ => []
  | d + 1, u => dig d (u / 256) ++ [u % 256]
theorem rnum_l0 : ∀ (d : Nat) (j u : Int) (acc : List Int), 0 ≤ j → j + d = 8 → 0 ≤ u → u < 18446744073709551616 → acc.length + d ≤ 16 →
    Ev (fun k => seicheref01_Num.l0 k u (strOfNums acc) j) (strOfNums (dig d u ++ acc))
  | 0, j, u, acc, h0, h1, _, _, _ => Ev.step (fun _ => seicheref01_Num.l0.eq_2 ..) (ev_neg (by omega) (ev_ret rfl))
  | d + 1, j, u, acc, h0, h1, h2, h3, h4 => by
    refine Ev.step (fun _ => seicheref01_Num.l0.eq_2 ..) (ev_pos (by omega) (ev_some (ev_pos (by rw [strOfNums_size, strOfNums_size]; simp; omega) ?_)))
    rw [Int.tmod_eq_emod_of_nonneg h2, Int.tdiv_eq_ediv_of_nonneg h2, u64_id (n := u / 256) (by omega) (by omega), w64 (by omega) (by omega), ← strOfNums_append, show u % 256 % 256 = u % 256 by omega]
    have ih := rnum_l0 d (j + 1) (u / 256) ([u % 256] ++ acc) (by omega) (by omega) (by omega) (by omega) (by simp; omega)
    rw [dig, List.append_assoc]
    exact ih
theorem rnum_ev (n : Int) : Ev (fun k => seicheref01_Num.f k n) (strOfNums (num8 n)) := by
  have r := u64_range n
  have := rnum_l0 8 0 (IntKind.u64.wrap n) [] (by omega) (by omega) r.1 r.2 (by simp)
  have e : dig 8 (IntKind.u64.wrap n) ++ [] = num8 n := by
    simp only [dig, num8, List.nil_append, List.append_nil, List.cons_append]
    generalize IntKind.u64.wrap n = u at *
    rw [show u / 256 / 256 = u / 65536 by omega, show u / 65536 / 256 = u / 16777216 by omega, show u / 16777216 / 256 = u / 4294967296 by omega, show u / 4294967296 / 256 = u / 1099511627776 by omega, show u / 1099511627776 / 256 = u / 281474976710656 by omega, show u / 281474976710656 / 256 = u / 72057594037927936 by omega]
  rw [e] at this
  exact this
theorem rjoin_l0 (l : List ByteArray) (hl : l.length < 1099511627776) : ∀ (d i : Nat) (acc : List Int), i + d = l.length → acc.length + 8 * d + sizes (l.drop i) ≤ 1099511627776 →
    Ev (fun k => seicheref01_Join.l0 k (strOfNums acc) l (l.length : Int) (i : Int)) (strOfNums (acc ++ flat ((l.drop i).map bytesOf)))
  | 0, i, acc, hd, _ => Ev.step (fun _ => seicheref01_Join.l0.eq_2 ..) (ev_neg (by omega) (ev_ret (by rw [List.drop_of_length_le (by omega)]; simp [flat])))
  | d + 1, i, acc, hd, hb => by
    rw [drop_rdOf ByteArray.empty l i (by omega)] at hb ⊢
    refine Ev.step (fun _ => seicheref01_Join.l0.eq_2 ..) (ev_pos (by omega) (ev_pos (by omega) (ev_pos (by omega) (ev_call (rnum_ev _) ?_))))
    generalize rdOf ByteArray.empty l (i : Int) = s at hb ⊢
    simp only [sizes] at hb
    refine ev_pos (by rw [num_size, strOfNums_size]; omega) (ev_pos (by rw [← strOfNums_append, strOfNums_size, List.length_append, num8_length]; omega) ?_)
    rw [w64 (by omega) (by omega), List.map_cons, flat_cons, bytesOf_length]
    have := rjoin_l0 l hl d (i + 1) (acc ++ num8 (s.size : Int) ++ bytesOf s) (by omega) (by rw [List.length_append, List.length_append, num8_length, bytesOf_length]; omega)
    rw [strOfNums_append, strOfNums_append, str_bytes] at this
    simpa using this
theorem rjoin_ev (l : List ByteArray) (hb : 8 * l.length + sizes l ≤ 549755813888) : Ev (fun k => seicheref01_Join.f k l) (strOfNums (joinB l)) := by
  refine ev_call (rnum_ev _) ?_
  have := rjoin_l0 l (by omega) l.length 0 (num8 (l.length : Int)) (by omega) (by rw [num8_length, List.drop_zero]; omega)
  rw [joinB, joinL, List.length_map]
  simpa using this
theorem long_bytes {l : List ByteArray} (h : sizes l ≤ 1048576) : ∀ p ∈ l.map bytesOf, p.length < 9223372036854775808 := by
  intro p hp
  obtain ⟨s, hs, rfl⟩ := List.mem_map.1 hp
  have := size_le hs
  rw [bytesOf_length]
  omega
end Go.Proofs.Ytclkcipakncjkaa.Co
namespace Go.Proofs.Ytclkcipakncjkaa.Fr
open Go Go.RowKit Go.Proofs.Ytclkcipakncjkaa.PAll Go.Proofs.YtclkcipakncjkaaW.PrintWords Go.Proofs.YtclkcipakncjkaaW.PrintLast Go.Proofs.YtclkcipakncjkaaPw
def bit (x : Int) : Int := Go.bits .xor .u32 (x / 2) (Go.bits .and .u32 2197175160 ((-(Go.bits .and .u32 x 1)) % 4294967296))
def bits8 (x : Int) : Int := bit (bit (bit (bit (bit (bit (bit (bit x)))))))
def byt (x c : Int) : Int := bits8 (Go.bits .xor .u32 x (c % 4294967296))
def crcL (x : Int) : List Int → Int
  | [] => x
  | c :: l => crcL (byt x c) l
def crc (l : List Int) : Int := Go.bits .xor .u32 4294967295 (crcL 4294967295 l)
theorem xrc {a b c : Nat} (h : a ^^^ c = b ^^^ c) : a = b := by
  have e := congrArg (· ^^^ c) h
  simpa [Nat.xor_assoc] using e
theorem xlc {a b c : Nat} (h : c ^^^ a = c ^^^ b) : a = b := by
  rw [Nat.xor_comm c a, Nat.xor_comm c b] at h
  exact xrc h
theorem xor_range (x y : Int) (hx : 0 ≤ x) (hx2 : x < 4294967296) (hy : 0 ≤ y) (hy2 : y < 4294967296) : 0 ≤ Go.bits .xor .u32 x y ∧ Go.bits .xor .u32 x y < 4294967296 := by
  rw [u32_xor x y hx hx2 hy hy2]
  have : x.toNat ^^^ y.toNat < 2 ^ 32 := Nat.xor_lt_two_pow (by omega) (by omega)
  omega
theorem and_one (x : Int) (hx : 0 ≤ x) (hx2 : x < 4294967296) : Go.bits .and .u32 x 1 = x % 2 := by
  rw [u32_and x 1 hx hx2 (by omega) (by omega)]
  have e : x.toNat &&& (1 : Int).toNat = x.toNat % 2 := Nat.and_one_is_mod _
  rw [e]
  omega
theorem bit_even (x : Int) (hx : 0 ≤ x) (hx2 : x < 4294967296) (h : x % 2 = 0) : bit x = x / 2 := by
  unfold bit
  rw [and_one x hx hx2, h]
  have e : Go.bits .and .u32 2197175160 ((-(0 : Int)) % 4294967296) = 0 := by decide
  rw [e, u32_xor (x / 2) 0 (by omega) (by omega) (by omega) (by omega)]
  have e : (x / 2).toNat ^^^ (0 : Int).toNat = (x / 2).toNat := Nat.xor_zero _
  rw [e]
  omega
theorem bit_odd (x : Int) (hx : 0 ≤ x) (hx2 : x < 4294967296) (h : x % 2 = 1) : bit x = Go.bits .xor .u32 (x / 2) 2197175160 := by
  unfold bit
  rw [and_one x hx hx2, h]
  have e : Go.bits .and .u32 2197175160 ((-(1 : Int)) % 4294967296) = 2197175160 := by decide
  rw [e]
theorem bit_range (x : Int) (hx : 0 ≤ x) (hx2 : x < 4294967296) : 0 ≤ bit x ∧ bit x < 4294967296 := by
  rcases Int.emod_two_eq x with h | h
  · rw [bit_even x hx hx2 h]; omega
  · rw [bit_odd x hx hx2 h]; exact xor_range _ _ (by omega) (by omega) (by omega) (by omega)
theorem odd_high (n : Nat) (h : n < 2147483648) : 2147483648 ≤ n ^^^ 2197175160 := by
  have t : (n ^^^ 2197175160).testBit 31 = true := by
    rw [Nat.testBit_xor, Nat.testBit_lt_two_pow (by omega : n < 2 ^ 31)]
    decide
  exact Nat.ge_two_pow_of_testBit t
theorem bit_inj (x y : Int) (hx : 0 ≤ x) (hx2 : x < 4294967296) (hy : 0 ≤ y) (hy2 : y < 4294967296) (h : bit x = bit y) : x = y := by
  have key : ∀ z : Int, 0 ≤ z → z < 4294967296 → z % 2 = 1 → bit z = (((z / 2).toNat ^^^ 2197175160 : Nat) : Int) := fun z h0 h1 h2 => by
    rw [bit_odd z h0 h1 h2, u32_xor (z / 2) 2197175160 (by omega) (by omega) (by omega) (by omega)]
    rfl
  rcases Int.emod_two_eq x with ex | ex <;> rcases Int.emod_two_eq y with ey | ey
  · rw [bit_even x hx hx2 ex, bit_even y hy hy2 ey] at h; omega
  · rw [bit_even x hx hx2 ex, key y hy hy2 ey] at h
    have := odd_high (y / 2).toNat (by omega)
    omega
  · rw [bit_even y hy hy2 ey, key x hx hx2 ex] at h
    have := odd_high (x / 2).toNat (by omega)
    omega
  · rw [key x hx hx2 ex, key y hy hy2 ey] at h
    have h' : (x / 2).toNat ^^^ 2197175160 = (y / 2).toNat ^^^ 2197175160 := Int.ofNat.inj h
    have := xrc h'
    omega
theorem bits8_range (x : Int) (hx : 0 ≤ x) (hx2 : x < 4294967296) : 0 ≤ bits8 x ∧ bits8 x < 4294967296 := by
  unfold bits8
  have b1 := bit_range x hx hx2
  have b2 := bit_range _ b1.1 b1.2
  have b3 := bit_range _ b2.1 b2.2
  have b4 := bit_range _ b3.1 b3.2
  have b5 := bit_range _ b4.1 b4.2
  have b6 := bit_range _ b5.1 b5.2
  have b7 := bit_range _ b6.1 b6.2
  exact bit_range _ b7.1 b7.2
theorem bits8_inj (x y : Int) (hx : 0 ≤ x) (hx2 : x < 4294967296) (hy : 0 ≤ y) (hy2 : y < 4294967296) (h : bits8 x = bits8 y) : x = y := by
  unfold bits8 at h
  have b1 := bit_range x hx hx2
  have b2 := bit_range _ b1.1 b1.2
  have b3 := bit_range _ b2.1 b2.2
  have b4 := bit_range _ b3.1 b3.2
  have b5 := bit_range _ b4.1 b4.2
  have b6 := bit_range _ b5.1 b5.2
  have b7 := bit_range _ b6.1 b6.2
  have c1 := bit_range y hy hy2
  have c2 := bit_range _ c1.1 c1.2
  have c3 := bit_range _ c2.1 c2.2
  have c4 := bit_range _ c3.1 c3.2
  have c5 := bit_range _ c4.1 c4.2
  have c6 := bit_range _ c5.1 c5.2
  have c7 := bit_range _ c6.1 c6.2
  exact bit_inj _ _ hx hx2 hy hy2 (bit_inj _ _ b1.1 b1.2 c1.1 c1.2 (bit_inj _ _ b2.1 b2.2 c2.1 c2.2 (bit_inj _ _ b3.1 b3.2 c3.1 c3.2 (bit_inj _ _ b4.1 b4.2 c4.1 c4.2 (bit_inj _ _ b5.1 b5.2 c5.1 c5.2 (bit_inj _ _ b6.1 b6.2 c6.1 c6.2 (bit_inj _ _ b7.1 b7.2 c7.1 c7.2 h)))))))
theorem byt_range (x c : Int) (hx : 0 ≤ x) (hx2 : x < 4294967296) : 0 ≤ byt x c ∧ byt x c < 4294967296 := by
  have := xor_range x (c % 4294967296) hx hx2 (by omega) (by omega)
  exact bits8_range _ this.1 this.2
theorem xor_inj_l (x y c : Int) (hx : 0 ≤ x) (hx2 : x < 4294967296) (hy : 0 ≤ y) (hy2 : y < 4294967296) (hc : 0 ≤ c) (hc2 : c < 4294967296) (h : Go.bits .xor .u32 x c = Go.bits .xor .u32 y c) : x = y := by
  rw [u32_xor x c hx hx2 hc hc2, u32_xor y c hy hy2 hc hc2] at h
  have := xrc (Int.ofNat.inj h)
  omega
theorem xor_inj_r (x c d : Int) (hx : 0 ≤ x) (hx2 : x < 4294967296) (hy : 0 ≤ d) (hy2 : d < 4294967296) (hc : 0 ≤ c) (hc2 : c < 4294967296) (h : Go.bits .xor .u32 x c = Go.bits .xor .u32 x d) : c = d := by
  rw [u32_xor x c hx hx2 hc hc2, u32_xor x d hx hx2 hy hy2] at h
  have := xlc (Int.ofNat.inj h)
  omega
theorem byt_inj_l (x y c : Int) (hx : 0 ≤ x) (hx2 : x < 4294967296) (hy : 0 ≤ y) (hy2 : y < 4294967296) (h : byt x c = byt y c) : x = y := by
  have a := xor_range x (c % 4294967296) hx hx2 (by omega) (by omega)
  have b := xor_range y (c % 4294967296) hy hy2 (by omega) (by omega)
  exact xor_inj_l x y (c % 4294967296) hx hx2 hy hy2 (by omega) (by omega) (bits8_inj _ _ a.1 a.2 b.1 b.2 h)
theorem byt_inj_r (x c d : Int) (hx : 0 ≤ x) (hx2 : x < 4294967296) (hc : 0 ≤ c) (hc2 : c < 256) (hd : 0 ≤ d) (hd2 : d < 256) (h : byt x c = byt x d) : c = d := by
  have a := xor_range x (c % 4294967296) hx hx2 (by omega) (by omega)
  have b := xor_range x (d % 4294967296) hx hx2 (by omega) (by omega)
  have := xor_inj_r x (c % 4294967296) (d % 4294967296) hx hx2 (by omega) (by omega) (by omega) (by omega) (bits8_inj _ _ a.1 a.2 b.1 b.2 h)
  omega
theorem crcL_range : ∀ (l : List Int) (x : Int), 0 ≤ x → x < 4294967296 → 0 ≤ crcL x l ∧ crcL x l < 4294967296
  | [], _, h0, h1 => ⟨h0, h1⟩
  | c :: l, x, h0, h1 => crcL_range l _ (byt_range x c h0 h1).1 (byt_range x c h0 h1).2
theorem crcL_inj : ∀ (l : List Int) (x y : Int), 0 ≤ x → x < 4294967296 → 0 ≤ y → y < 4294967296 → crcL x l = crcL y l → x = y
  | [], _, _, _, _, _, _, h => h
  | c :: l, x, y, h0, h1, h2, h3, h => byt_inj_l x y c h0 h1 h2 h3 (crcL_inj l _ _ (byt_range x c h0 h1).1 (byt_range x c h0 h1).2 (byt_range y c h2 h3).1 (byt_range y c h2 h3).2 h)
theorem crcL_append : ∀ (l m : List Int) (x : Int), crcL x (l ++ m) = crcL (crcL x l) m
  | [], _, _ => rfl
  | _ :: l, m, _ => crcL_append l m _
theorem crc_range (l : List Int) : 0 ≤ crc l ∧ crc l < 4294967296 := by
  have := crcL_range l 4294967295 (by omega) (by omega)
  exact xor_range _ _ (by omega) (by omega) this.1 this.2
theorem crc_one (a b : List Int) (c d : Int) (hc : 0 ≤ c) (hc2 : c < 256) (hd : 0 ≤ d) (hd2 : d < 256) (h : c ≠ d) : crc (a ++ c :: b) ≠ crc (a ++ d :: b) := by
  intro e
  have r := crcL_range a 4294967295 (by omega) (by omega)
  have r1 := crcL_range (a ++ c :: b) 4294967295 (by omega) (by omega)
  have r2 := crcL_range (a ++ d :: b) 4294967295 (by omega) (by omega)
  have e2 := xor_inj_r _ _ _ (by omega) (by omega) r2.1 r2.2 r1.1 r1.2 e
  rw [crcL_append, crcL_append] at e2
  have b1 := byt_range (crcL 4294967295 a) c r.1 r.2
  have b2 := byt_range (crcL 4294967295 a) d r.1 r.2
  exact h (byt_inj_r _ c d r.1 r.2 hc hc2 hd hd2 (crcL_inj b _ _ b1.1 b1.2 b2.1 b2.2 e2))
theorem drop_cons (s : ByteArray) (i : Nat) (h : i < s.size) : (bytesOf s).drop i = bt s i :: (bytesOf s).drop (i + 1) := by
  have hl : i < (bytesOf s).length := by rw [bytesOf_length]; exact h
  rw [List.drop_eq_getElem_cons hl]
  congr 1
  rw [← bytesOf_getD, List.getD_eq_getElem?_getD, List.getElem?_eq_getElem hl]
  rfl
theorem check_l1 (s : ByteArray) (n : Int) (i : Int) (r : Int) : ∀ (d : Nat) (j : Int) (x : Int), 0 ≤ j → j + d = 8 →
    Ev (fun k => frame_Check.l0 k s (Nat.repeat bit d x) n (wrap64 (i + 1))) r → Ev (fun k => frame_Check.l1 k s x n i j) r
  | 0, j, x, h0, h1, h => Ev.step (fun _ => frame_Check.l1.eq_2 ..) (ev_neg (by omega) h)
  | d + 1, j, x, h0, h1, h => Ev.step (fun _ => frame_Check.l1.eq_2 ..) (ev_pos (by omega) (by
      rw [w64 (by omega) (by omega)]
      refine check_l1 s n i r d (j + 1) _ (by omega) (by omega) ?_
      have e : ∀ (d : Nat) (x : Int), Nat.repeat bit d (bit x) = Nat.repeat bit (d + 1) x := by
        intro d
        induction d with
        | zero => intro x; rfl
        | succ d ih => intro x; show bit (Nat.repeat bit d (bit x)) = bit (Nat.repeat bit (d + 1) x); rw [ih]
      have e2 := e d x
      unfold bit at e2 ⊢
      rw [e2]
      exact h))
theorem check_l0 (s : ByteArray) (hs : s.size < 9223372036854775807) : ∀ (d i : Nat) (x : Int), i + d = s.size →
    Ev (fun k => frame_Check.l0 k s x (s.size : Int) (i : Int)) (Go.bits .xor .u32 4294967295 (crcL x ((bytesOf s).drop i)))
  | 0, i, x, hd => Ev.step (fun _ => frame_Check.l0.eq_2 ..) (ev_neg (by omega) (ev_ret (by rw [List.drop_of_length_le (by rw [bytesOf_length]; omega)]; rfl)))
  | d + 1, i, x, hd => Ev.step (fun _ => frame_Check.l0.eq_2 ..) (ev_pos (by omega) (ev_pos (by omega) (ev_pos (by omega) (by
      refine check_l1 s _ _ _ 8 0 _ (by omega) (by omega) ?_
      rw [w64 (by omega) (by omega)]
      have ih := check_l0 s hs d (i + 1) (byt x (bt s i)) (by omega)
      rw [drop_cons s i (by omega)]
      exact ih))))
theorem check_ev (s : ByteArray) (hs : s.size < 9223372036854775807) : Ev (fun k => frame_Check.f k s) (crc (bytesOf s)) := check_l0 s hs s.size 0 4294967295 (by omega)
theorem rbit (x : Int) (hx : 0 ≤ x) (hx2 : x < 4294967296) : (if Int.tmod x 2 = 1 then Go.bits .xor .u32 ((Int.tdiv x 2) % 4294967296) 2197175160 else (Int.tdiv x 2) % 4294967296) = bit x := by
  rw [Int.tmod_eq_emod_of_nonneg hx, Int.tdiv_eq_ediv_of_nonneg hx, show x / 2 % 4294967296 = x / 2 by omega]
  rcases Int.emod_two_eq x with h | h
  · rw [if_neg (by omega), bit_even x hx hx2 h]
  · rw [if_pos h, bit_odd x hx hx2 h]
theorem rcheck_l1 (s : ByteArray) (i : Int) (r : Int) : ∀ (d : Nat) (j : Int) (x : Int), 0 ≤ x → x < 4294967296 → 0 ≤ j → j + d = 8 →
    Ev (fun k => seicheref04_Check.l0 k s (Nat.repeat bit d x) (wrap64 (i + 1))) r → Ev (fun k => seicheref04_Check.l1 k s x i j) r
  | 0, j, x, _, _, h0, h1, h => Ev.step (fun _ => seicheref04_Check.l1.eq_2 ..) (ev_neg (by omega) h)
  | d + 1, j, x, hx, hx2, h0, h1, h => Ev.step (fun _ => seicheref04_Check.l1.eq_2 ..) (ev_pos (by omega) (by
      rw [w64 (by omega) (by omega)]
      have e : ∀ (d : Nat) (x : Int), Nat.repeat bit d (bit x) = Nat.repeat bit (d + 1) x := by
        intro d
        induction d with
        | zero => intro x; rfl
        | succ d ih => intro x; show bit (Nat.repeat bit d (bit x)) = bit (Nat.repeat bit (d + 1) x); rw [ih]
      have b := bit_range x hx hx2
      have ih := rcheck_l1 s i r d (j + 1) (bit x) b.1 b.2 (by omega) (by omega) (by rw [e]; exact h)
      rw [← rbit x hx hx2] at ih
      by_cases c : Int.tmod x 2 = 1
      · rw [if_pos c] at ih; exact ev_pos c ih
      · rw [if_neg c] at ih; exact ev_neg c ih))
theorem rcheck_l0 (s : ByteArray) (hs : s.size < 9223372036854775807) : ∀ (d i : Nat) (x : Int), 0 ≤ x → x < 4294967296 → i + d = s.size →
    Ev (fun k => seicheref04_Check.l0 k s x (i : Int)) (Go.bits .xor .u32 4294967295 (crcL x ((bytesOf s).drop i)))
  | 0, i, x, hx, hx2, hd => Ev.step (fun _ => seicheref04_Check.l0.eq_2 ..) (ev_neg (by omega) (ev_ret (by
      rw [List.drop_of_length_le (by rw [bytesOf_length]; omega)]
      rw [u32_xor _ _ hx hx2 (by omega) (by omega), crcL, u32_xor _ _ (by omega) (by omega) hx hx2, Nat.xor_comm])))
  | d + 1, i, x, hx, hx2, hd => Ev.step (fun _ => seicheref04_Check.l0.eq_2 ..) (ev_pos (by omega) (ev_pos (by omega) (by
      have b := xor_range x (bt s i % 4294967296) hx hx2 (by omega) (by omega)
      refine rcheck_l1 s _ _ 8 0 _ b.1 b.2 (by omega) (by omega) ?_
      rw [w64 (by omega) (by omega)]
      have b2 := byt_range x (bt s i) hx hx2
      have ih := rcheck_l0 s hs d (i + 1) (byt x (bt s i)) b2.1 b2.2 (by omega)
      rw [drop_cons s i (by omega)]
      exact ih)))
theorem rcheck_ev (s : ByteArray) (hs : s.size < 9223372036854775807) : Ev (fun k => seicheref04_Check.f k s) (crc (bytesOf s)) := rcheck_l0 s hs s.size 0 4294967295 (by omega) (by omega) (by omega)
def word4 (n : Int) : List Int := [n % 256, n / 256 % 256, n / 65536 % 256, n / 16777216 % 256]
def num4 (l : List Int) : Int := l.getD 0 0 + 256 * l.getD 1 0 + 65536 * l.getD 2 0 + 16777216 * l.getD 3 0
theorem byt_word4 (n : Int) : Byt (word4 n) := by
  intro x hx
  simp only [word4, List.mem_cons, List.not_mem_nil, or_false] at hx
  omega
theorem num4_word4 (n : Int) (r : List Int) (h0 : 0 ≤ n) (h1 : n < 4294967296) : num4 (word4 n ++ r) = n := by
  simp [num4, word4]
  omega
theorem num4_take (l : List Int) (m : Nat) (h : 4 ≤ m) : num4 (l.take m) = num4 l := by
  have e : ∀ i, i < 4 → (l.take m).getD i 0 = l.getD i 0 := fun i hi => by
    rw [List.getD_eq_getElem?_getD, List.getD_eq_getElem?_getD, List.getElem?_take, if_pos (by omega)]
  simp only [num4, e 0 (by omega), e 1 (by omega), e 2 (by omega), e 3 (by omega)]
theorem num4_range {l : List Int} (h : Byt l) : 0 ≤ num4 l ∧ num4 l < 4294967296 := by
  have a := byt_getD h 0
  have b := byt_getD h 1
  have c := byt_getD h 2
  have d := byt_getD h 3
  unfold num4
  omega
def recB (s : List Int) : List Int := word4 s.length ++ (word4 (crc s) ++ s)
theorem recB_length (s : List Int) : (recB s).length = 8 + s.length := by simp [recB, word4]; omega
theorem byt_recB {s : List Int} (h : Byt s) : Byt (recB s) := byt_append (byt_word4 _) (byt_append (byt_word4 _) h)
def wholeL (l : List Int) : Option (List Int) :=
  if l.length < 8 then none else if 65536 < num4 l ∨ (l.length : Int) - 8 < num4 l then none else
    if crc ((l.drop 8).take (num4 l).toNat) = num4 (l.drop 4) then some ((l.drop 8).take (num4 l).toNat) else none
theorem wholeL_rec (s r : List Int) (h : s.length ≤ 65536) : wholeL (recB s ++ r) = some s := by
  have e1 : num4 (recB s ++ r) = s.length := by unfold recB; rw [List.append_assoc]; exact num4_word4 _ _ (by omega) (by omega)
  have e2 : num4 ((recB s ++ r).drop 4) = crc s := by
    have : (recB s ++ r).drop 4 = word4 (crc s) ++ (s ++ r) := by simp [recB, word4]
    rw [this]
    exact num4_word4 _ _ (crc_range s).1 (crc_range s).2
  have e3 : (recB s ++ r).drop 8 = s ++ r := by simp [recB, word4]
  unfold wholeL
  rw [e1, e2, e3, if_neg (by rw [List.length_append, recB_length]; omega), if_neg (by rw [List.length_append, recB_length]; omega)]
  simp
theorem wholeL_some {l s : List Int} (h : wholeL l = some s) : 8 + s.length ≤ l.length ∧ 0 ≤ num4 l ∨ num4 l < 0 := by
  by_cases h0 : num4 l < 0
  · exact .inr h0
  · left
    unfold wholeL at h
    split at h
    · cases h
    · split at h
      · cases h
      · split at h
        · injection h with h
          subst h
          rw [List.length_take, List.length_drop]
          omega
        · cases h
def Splits : List Int → List (List Int) → Prop
  | l, [] => wholeL l = none
  | l, s :: rs => wholeL l = some s ∧ Splits (l.drop (8 + s.length)) rs
def total : List (List Int) → Nat
  | [] => 0
  | s :: rs => 8 + s.length + total rs
theorem splits_recs (rs : List (List Int)) (h : ∀ s ∈ rs, s.length ≤ 65536) (r : List Int) (hr : wholeL r = none) : Splits (rs.flatMap recB ++ r) rs := by
  induction rs with
  | nil => exact hr
  | cons s rs ih =>
    have hs := h s (by simp)
    rw [List.flatMap_cons, List.append_assoc]
    refine ⟨wholeL_rec s _ hs, ?_⟩
    rw [← recB_length s, List.drop_left]
    exact ih (fun x hx => h x (by simp [hx]))
theorem total_recs (rs : List (List Int)) : (rs.flatMap recB).length = total rs := by
  induction rs with
  | nil => rfl
  | cons s rs ih => rw [List.flatMap_cons, List.length_append, ih, recB_length]; rfl
theorem word_eq (l : List Int) (n : Int) (h : l.length < 140737488350000) : frame_word.f l n = some (l ++ word4 n) := by
  unfold frame_word.f
  rw [Option.bind_some, if_pos (by simp; omega)]
  rfl
theorem or_add (a b : Nat) (i : Nat) (h : a < 2 ^ i) : a ||| (b * 2 ^ i) = a + b * 2 ^ i := by
  rw [Nat.or_comm, Nat.mul_comm, ← Nat.two_pow_add_eq_or_of_lt h]
  omega
theorem number_eq (l : List Int) (hb : Byt l) (i : Nat) (hl : l.length < 9223372036854775800) (h : i + 4 ≤ l.length) : frame_number.f l (i : Int) = some (num4 (l.drop i)) := by
  unfold frame_number.f
  rw [w64 (by omega) (by omega), w64 (by omega) (by omega), w64 (by omega) (by omega), if_pos (by omega), if_pos (by omega), if_pos (by omega), if_pos (by omega), if_pos (by omega), if_pos (by omega), if_pos (by omega), if_pos (by omega)]
  have e : ∀ j : Nat, (l.drop i).getD j 0 = l.getD (i + j) 0 := fun j => by rw [List.getD_eq_getElem?_getD, List.getD_eq_getElem?_getD, List.getElem?_drop]
  have g0 := byt_getD hb i
  have g1 := byt_getD hb (i + 1)
  have g2 := byt_getD hb (i + 2)
  have g3 := byt_getD hb (i + 3)
  have r : ∀ j : Nat, rd l ((i : Int) + (j : Int)) = l.getD (i + j) 0 := fun j => by unfold rd; congr 1
  have r0 : rd l (i : Int) = l.getD i 0 := by unfold rd; congr 1
  have r1 : rd l ((i : Int) + 1) = l.getD (i + 1) 0 := r 1
  have r2 : rd l ((i : Int) + 2) = l.getD (i + 2) 0 := r 2
  have r3 : rd l ((i : Int) + 3) = l.getD (i + 3) 0 := r 3
  rw [r0, r1, r2, r3]
  unfold num4
  rw [e 0, e 1, e 2, e 3, Nat.add_zero]
  generalize l.getD i 0 = a at *
  generalize l.getD (i + 1) 0 = b at *
  generalize l.getD (i + 2) 0 = c at *
  generalize l.getD (i + 3) 0 = d at *
  obtain ⟨a, rfl⟩ := Int.eq_ofNat_of_zero_le g0.1
  obtain ⟨b, rfl⟩ := Int.eq_ofNat_of_zero_le g1.1
  obtain ⟨c, rfl⟩ := Int.eq_ofNat_of_zero_le g2.1
  obtain ⟨d, rfl⟩ := Int.eq_ofNat_of_zero_le g3.1
  have m1 : ((a : Int) % 4294967296) = ((a : Nat) : Int) := by omega
  have m2 : ((b : Int) % 4294967296 * 256) % 4294967296 = ((b * 2 ^ 8 : Nat) : Int) := by omega
  have m3 : ((c : Int) % 4294967296 * 65536) % 4294967296 = ((c * 2 ^ 16 : Nat) : Int) := by omega
  have m4 : ((d : Int) % 4294967296 * 16777216) % 4294967296 = ((d * 2 ^ 24 : Nat) : Int) := by omega
  rw [m1, m2, m3, m4, u32_or_nat _ _ (by omega) (by omega), or_add a b 8 (by omega), u32_or_nat _ _ (by omega) (by omega), or_add _ c 16 (by omega), u32_or_nat _ _ (by omega) (by omega), or_add _ d 24 (by omega)]
  congr 1
  omega
theorem cut_drop (l : List Int) (i m : Nat) : (l.take (i + m)).drop i = (l.drop i).take m := by
  rw [List.drop_take]
  congr 1
  omega
theorem split_l0 (b : List Int) (hb : Byt b) (hl : b.length ≤ 16777216) : ∀ (rs : List (List Int)) (i : Nat) (acc : List ByteArray), i ≤ b.length → acc.length ≤ i → Splits (b.drop i) rs →
    Ev (fun k => frame_Split.l0 k b acc (i : Int)) (acc ++ rs.map strOfNums, ((i + total rs : Nat) : Int)) := by
  have hdl : ∀ i : Nat, (b.drop i).length = b.length - i := fun i => List.length_drop
  have hz : ∀ i : Nat, i ≤ b.length → wrap64 ((b.length : Int) - (i : Int)) = (((b.drop i).length : Nat) : Int) := fun i hi => by
    rw [w64 (by omega) (by omega), List.length_drop]; omega
  intro rs
  induction rs with
  | nil =>
    intro i acc hi _ hs
    have hs : wholeL (b.drop i) = none := hs
    refine Ev.step (fun _ => frame_Split.l0.eq_2 ..) ?_
    rw [hz i hi, List.map_nil, List.append_nil, total, Nat.add_zero]
    by_cases h8 : (b.drop i).length < 8
    · exact ev_neg (by omega) (Ev.now _)
    refine ev_pos (by omega) ?_
    have h8' : i + 8 ≤ b.length := by rw [List.length_drop] at h8; omega
    refine ev_call (ev_eq (number_eq b hb i (by omega) (by omega))) ?_
    have hr := num4_range (byt_drop hb i)
    by_cases hn : num4 (b.drop i) > 65536
    · refine ev_pos hn (Ev.step (fun _ => frame_Split.j1.eq_2 ..) ?_)
      exact ev_pos rfl (Ev.now _)
    refine ev_neg hn (Ev.step (fun _ => frame_Split.j1.eq_2 ..) ?_)
    rw [w64 (x := num4 (b.drop i)) (by omega) (by omega), w64 (x := (((b.drop i).length : Nat) : Int) - 8) (by rw [hdl]; omega) (by rw [hdl]; omega)]
    by_cases hn2 : num4 (b.drop i) > ((b.drop i).length : Int) - 8
    · exact ev_pos (decide_eq_true hn2) (Ev.now _)
    refine ev_neg (by simpa using hn2) ?_
    rw [w64 (x := (i : Int) + 8) (by omega) (by omega), w64 (x := (i : Int) + 8 + num4 (b.drop i)) (by omega) (by omega)]
    refine ev_pos (by omega) (ev_pos (by omega) (ev_pos (by rw [List.length_drop] at hn2; omega) ?_))
    obtain ⟨n, en⟩ := Int.eq_ofNat_of_zero_le hr.1
    rw [en] at hn hn2 ⊢
    rw [show ((i : Int) + 8 + (n : Int)).toNat = i + 8 + n by omega, show ((i : Int) + 8).toNat = i + 8 by omega, cut_drop]
    refine ev_call (check_ev _ (by rw [strOfNums_size, List.length_take, List.length_drop]; omega)) ?_
    rw [bytes_str (byt_take (byt_drop hb _) _), w64 (x := (i : Int) + 4) (by omega) (by omega), show (i : Int) + 4 = ((i + 4 : Nat) : Int) by omega]
    refine ev_call (ev_eq (number_eq b hb (i + 4) (by omega) (by omega))) ?_
    refine ev_neg (fun e => ?_) (Ev.now _)
    unfold wholeL at hs
    rw [if_neg h8, if_neg (by rw [en]; omega), en, Int.toNat_natCast, List.drop_drop, List.drop_drop, if_pos e] at hs
    cases hs
  | cons s rs ih =>
    intro i acc hi hacc hs
    obtain ⟨hs, hrest⟩ := hs
    have hlen := wholeL_some hs
    have hr := num4_range (byt_drop hb i)
    unfold wholeL at hs
    by_cases h8 : (b.drop i).length < 8
    · rw [if_pos h8] at hs; cases hs
    rw [if_neg h8] at hs
    by_cases hc : 65536 < num4 (b.drop i) ∨ ((b.drop i).length : Int) - 8 < num4 (b.drop i)
    · rw [if_pos hc] at hs; cases hs
    rw [if_neg hc] at hs
    obtain ⟨n, en⟩ := Int.eq_ofNat_of_zero_le hr.1
    have h8' : i + 8 ≤ b.length := by rw [List.length_drop] at h8; omega
    by_cases e : crc (((b.drop i).drop 8).take (num4 (b.drop i)).toNat) = num4 ((b.drop i).drop 4)
    case neg => rw [if_neg e] at hs; cases hs
    rw [if_pos e] at hs
    injection hs with hs
    refine Ev.step (fun _ => frame_Split.l0.eq_2 ..) ?_
    rw [hz i hi]
    refine ev_pos (by omega) ?_
    refine ev_call (ev_eq (number_eq b hb i (by omega) (by omega))) ?_
    refine ev_neg (by omega) (Ev.step (fun _ => frame_Split.j1.eq_2 ..) ?_)
    rw [w64 (x := num4 (b.drop i)) (by omega) (by omega), w64 (x := (((b.drop i).length : Nat) : Int) - 8) (by rw [hdl]; omega) (by rw [hdl]; omega)]
    refine ev_neg (by have := hdl i; simp; omega) ?_
    rw [w64 (x := (i : Int) + 8) (by omega) (by omega), w64 (x := (i : Int) + 8 + num4 (b.drop i)) (by omega) (by omega)]
    have hd' := hdl i
    refine ev_pos (by omega) (ev_pos (by omega) (ev_pos (by omega) ?_))
    rw [en] at hs e hc ⊢
    rw [show ((i : Int) + 8 + (n : Int)).toNat = i + 8 + n by omega, show ((i : Int) + 8).toNat = i + 8 by omega, cut_drop]
    rw [Int.toNat_natCast, List.drop_drop] at hs e
    rw [List.drop_drop] at e
    rw [hs] at e ⊢
    have hbs : Byt s := by rw [← hs]; exact byt_take (byt_drop hb _) _
    have hsl : s.length = n := by rw [← hs, List.length_take, List.length_drop]; omega
    refine ev_call (check_ev _ (by rw [strOfNums_size]; omega)) ?_
    rw [bytes_str hbs, w64 (x := (i : Int) + 4) (by omega) (by omega), show (i : Int) + 4 = ((i + 4 : Nat) : Int) by omega]
    refine ev_call (ev_eq (number_eq b hb (i + 4) (by omega) (by omega))) ?_
    refine ev_pos e (ev_pos (by omega) ?_)
    have := ih (i + (8 + s.length)) (acc ++ [strOfNums s]) (by omega) (by simp; omega) (by rw [← List.drop_drop]; exact hrest)
    rw [show (((i + (8 + s.length)) : Nat) : Int) = (i : Int) + 8 + (n : Int) by omega] at this
    rw [List.map_cons, total, ← Nat.add_assoc]
    simpa using this
theorem split_ev (b : List Int) (hb : Byt b) (hl : b.length ≤ 16777216) (rs : List (List Int)) (h : Splits b rs) : Ev (fun k => frame_Split.f k b) (rs.map strOfNums, (total rs : Int)) := by
  have := split_l0 b hb hl rs 0 [] (by omega) (by simp) h
  rw [List.nil_append, Nat.zero_add] at this
  exact this
def shortB (s : ByteArray) : Bool := decide (s.size ≤ 65536)
def putB (l : List ByteArray) : List Int := (l.filter shortB).flatMap fun s => recB (bytesOf s)
theorem put_l0 (l : List ByteArray) (hl : l.length < 9223372036854775807) : ∀ (d i : Nat) (acc : List Int), i + d = l.length → acc.length + (putB (l.drop i)).length ≤ 1099511627776 →
    Ev (fun k => frame_Put.l0 k acc l (l.length : Int) (i : Int)) (acc ++ putB (l.drop i))
  | 0, i, acc, hd, _ => Ev.step (fun _ => frame_Put.l0.eq_2 ..) (ev_neg (by omega) (ev_ret (by rw [List.drop_of_length_le (by omega)]; simp [putB])))
  | d + 1, i, acc, hd, hb => Ev.step (fun _ => frame_Put.l0.eq_2 ..) (ev_pos (by omega) (ev_pos (by omega) (ev_pos (by omega) (by
      rw [drop_rdOf ByteArray.empty l i (by omega)] at hb ⊢
      generalize rdOf ByteArray.empty l (i : Int) = s at hb ⊢
      by_cases hs : s.size ≤ 65536
      · have ef : putB (s :: l.drop (i + 1)) = recB (bytesOf s) ++ putB (l.drop (i + 1)) := by simp [putB, shortB, hs]
        rw [ef] at hb ⊢
        rw [List.length_append, recB_length, bytesOf_length] at hb
        refine ev_pos (by omega) ?_
        refine ev_call (ev_eq (word_eq _ _ (by omega))) (ev_call (check_ev s (by omega)) (ev_call (ev_eq (word_eq _ _ (by simp [word4]; omega))) ?_))
        refine ev_pos (by simp [word4]; omega) ?_
        rw [w64 (by omega) (by omega)]
        have e : acc ++ word4 ((s.size : Int) % 4294967296) ++ word4 (crc (bytesOf s)) ++ bytesOf s = acc ++ recB (bytesOf s) := by
          rw [show (s.size : Int) % 4294967296 = ((bytesOf s).length : Int) by rw [bytesOf_length]; omega]
          simp [recB]
        rw [e, ← List.append_assoc]
        exact put_l0 l hl d (i + 1) _ (by omega) (by rw [List.length_append, recB_length, bytesOf_length]; omega)
      · have ef : putB (s :: l.drop (i + 1)) = putB (l.drop (i + 1)) := by simp [putB, shortB, hs]
        rw [ef] at hb ⊢
        refine ev_neg (by omega) ?_
        rw [w64 (by omega) (by omega)]
        exact put_l0 l hl d (i + 1) _ (by omega) hb))))
theorem put_ev (acc : List Int) (l : List ByteArray) (hl : l.length < 9223372036854775807) (hb : acc.length + (putB l).length ≤ 1099511627776) : Ev (fun k => frame_Put.f k acc l) (acc ++ putB l) := put_l0 l hl l.length 0 acc (by omega) hb
theorem byt_putB (l : List ByteArray) : Byt (putB l) := by
  intro x hx
  simp only [putB, List.mem_flatMap] at hx
  obtain ⟨s, _, h⟩ := hx
  exact byt_recB (byt_bytesOf s) x h
def sizes : List ByteArray → Nat
  | [] => 0
  | s :: l => s.size + sizes l
theorem size_le {l : List ByteArray} {s : ByteArray} (h : s ∈ l) : s.size ≤ sizes l := by
  induction l with
  | nil => cases h
  | cons a l ih =>
    simp only [sizes]
    rcases List.mem_cons.1 h with rfl | h
    · omega
    · have := ih h; omega
theorem putB_short {l : List ByteArray} (h : ∀ s ∈ l, s.size ≤ 65536) : putB l = (l.map bytesOf).flatMap recB := by
  rw [putB, (List.filter_eq_self (p := shortB)).2 (fun s hs => decide_eq_true (h s hs)), List.flatMap_map]
theorem putB_length {l : List ByteArray} (h : ∀ s ∈ l, s.size ≤ 65536) : (putB l).length = 8 * l.length + sizes l := by
  rw [putB_short h]
  clear h
  induction l with
  | nil => rfl
  | cons s l ih => rw [List.map_cons, List.flatMap_cons, List.length_append, recB_length, bytesOf_length, ih, sizes, List.length_cons]; omega
theorem map_str (l : List ByteArray) : (l.map bytesOf).map strOfNums = l := by
  rw [List.map_map]
  conv => rhs; rw [← List.map_id l]
  exact List.map_congr_left fun s _ => str_bytes s
theorem wholeL_nil : wholeL [] = none := by decide
theorem total_put {l : List ByteArray} (h : ∀ s ∈ l, s.size ≤ 65536) : total (l.map bytesOf) = (putB l).length := by rw [putB_short h, total_recs]
def digits : Nat → Int → List Int
  | 0, _ => []
  | d + 1, n => n % 256 :: digits d (n / 256)
theorem rword_l0 : ∀ (d : Nat) (j n : Int) (acc : List Int), 0 ≤ j → j + d = 4 → 0 ≤ n → n < 4294967296 → acc.length + d ≤ 8 →
    Ev (fun k => seicheref04_word.l0 k n (strOfNums acc) j) (strOfNums (acc ++ digits d n))
  | 0, j, n, acc, h0, h1, _, _, _ => Ev.step (fun _ => seicheref04_word.l0.eq_2 ..) (ev_neg (by omega) (ev_ret (by simp [digits])))
  | d + 1, j, n, acc, h0, h1, h2, h3, h4 => Ev.step (fun _ => seicheref04_word.l0.eq_2 ..) (ev_pos (by omega) (by
      refine ev_some (ev_pos (by rw [strOfNums_size, strOfNums_size]; simp; omega) ?_)
      rw [Int.tmod_eq_emod_of_nonneg h2, Int.tdiv_eq_ediv_of_nonneg h2, Int.emod_eq_of_lt (a := n / 256) (by omega) (by omega), w64 (by omega) (by omega), ← strOfNums_append, show n % 256 % 256 = n % 256 by omega]
      have ih := rword_l0 d (j + 1) (n / 256) (acc ++ [n % 256]) (by omega) (by omega) (by omega) (by omega) (by simp; omega)
      simpa [digits] using ih))
theorem rword_ev (n : Int) (h0 : 0 ≤ n) (h1 : n < 4294967296) : Ev (fun k => seicheref04_word.f k n) (strOfNums (word4 n)) := by
  have := rword_l0 4 0 n [] (by omega) (by omega) h0 h1 (by simp)
  have e : [] ++ digits 4 n = word4 n := by
    simp only [digits, word4, List.nil_append]
    rw [show n / 256 / 256 = n / 65536 by omega, show n / 65536 / 256 = n / 16777216 by omega]
  rwa [e] at this
theorem rbytes_ev (s : ByteArray) (hs : s.size ≤ 16777216) : Ev (fun k => seicheref04_Bytes.f k s) (strOfNums (recB (bytesOf s))) := by
  have hc := crc_range (bytesOf s)
  have l4 : ∀ n, (strOfNums (word4 n)).size = 4 := fun n => by rw [strOfNums_size]; rfl
  refine ev_call (rword_ev _ (by omega) (by omega)) (ev_call (rcheck_ev s (by omega)) (ev_call (rword_ev _ hc.1 hc.2) (ev_pos (by rw [l4, l4]; omega) (ev_pos ?_ (ev_ret ?_)))))
  · rw [← strOfNums_append, strOfNums_size]; simp [word4]; omega
  · rw [Int.emod_eq_of_lt (by omega) (by omega), recB, strOfNums_append, strOfNums_append, str_bytes, bytesOf_length]
    apply bytes_inj
    simp only [bytesOf_append, List.append_assoc]
end Go.Proofs.Ytclkcipakncjkaa.Fr
namespace Go.Proofs.Ytclkcipakncjkaa.Kv
open Go Go.RowKit Go.Proofs.YtclkcipakncjkaaW.PrintWords Go.Proofs.YtclkcipakncjkaaW.PrintLast Go.Proofs.YtclkcipakncjkaaW.PrintMore Go.Proofs.YtclkcipakncjkaaMy Go.Proofs.Ytclkcipakncjkaa Go.Proofs.YtclkcipakncjkaaPw Go.Proofs.Ytclkcipakncjkaa.PAll Go.Proofs.Ytclkcipakncjkaa.Dk
set_option linter.unusedVariables false
set_option linter.unusedSimpArgs false
abbrev E : Type := S54
abbrev kE : Kd E := k54
def atE (l : List E) (s : ByteArray) : Int := match l.findIdx? (fun f => decide (f.f0 = s)) with
  | some i => (i : Int)
  | none => -1
theorem atE_of {l : List E} {s : ByteArray} {k : Nat} (hk : k < l.length) (hb : ∀ i (h : i < l.length), i < k → l[i].f0 ≠ s) (he : l[k].f0 = s) : atE l s = (k : Int) := by
  unfold atE
  rw [List.findIdx?_eq_some_iff_getElem.2 ⟨hk, decide_eq_true he, fun j hj => by simp [hb j (by omega) hj]⟩]
theorem atE_no {l : List E} {s : ByteArray} (hb : ∀ i (h : i < l.length), i < l.length → l[i].f0 ≠ s) : atE l s = -1 := by
  unfold atE
  rw [List.findIdx?_eq_none_iff.2 (fun f hf => by obtain ⟨i, hi, rfl⟩ := List.getElem_of_mem hf; exact decide_eq_false (hb i hi hi))]
theorem no_stepE {l : List E} {s : ByteArray} {k : Nat} (h : ∀ i (h : i < l.length), i < k → l[i].f0 ≠ s) {hk : k < l.length} (hq : ¬ (l[k]'hk).f0 = s) : ∀ i (h : i < l.length), i < k + 1 → l[i].f0 ≠ s := fun i hi h1 => by
  rcases Nat.lt_or_ge i k with h2 | h2
  · exact h i hi h2
  · have : i = k := by omega
    subst this
    exact hq
theorem vE {k n : Nat} (h : k < n) (hn : n ≤ 1048576) : Value.int .i64 (wrap64 ((k : Int) + 1)) = .int .i64 ((k + 1 : Nat) : Int) := by
  rw [w64 (by omega) (by omega)]
  rfl
theorem mE {k n : Nat} (h : k < n) (hn : n ≤ 1048576) : n - (intOf (.int .i64 (wrap64 ((k : Int) + 1)))).toNat < n - (intOf (.int .i64 (k : Int))).toNat := by
  rw [vE h hn]
  simp only [intOf]
  omega
abbrev kvCells (gd : Nat) (n : ByteArray) (m : Int) (v : Value) : Array Value := #[.pointer (some ⟨gd, 0, none⟩), .string n, .int .i64 m, v]
structure KvW (S : Nat → Prop) (W : World) (g gd : Nat) (n : ByteArray) (m : Int) (v : Value) (l : List E) : Prop where
  blk : W.heap[g]? = some (.cells (kvCells gd n m v) 70 (0, 0))
  sg : S g
  row : Kd.R kE 82 W 0 (fun k => S k ∧ k ≠ g) v l
section
variable {S S1 : Nat → Prop} {W W1 w : World} {g gd : Nat} {n : ByteArray} {m : Int} {v : Value} {l : List E}
theorem KvW.move (h : KvW S W g gd n m v l) (hm : ∀ k, S k → k < W.heap.size → W1.heap[k]? = W.heap[k]?) : KvW S W1 g gd n m v l :=
  ⟨(hm g h.sg (blk_lt h.blk)).trans h.blk, h.sg, Kd.R_step h.row (fun k hk hlt => hm k hk.1 hlt)⟩
theorem KvW.below (h : KvW S W g gd n m v l) (hb : Below W.heap.size W W1) : KvW S W1 g gd n m v l := h.move (fun k _ hk => hb.block k hk)
theorem KvW.mono (h : KvW S W g gd n m v l) (hS : ∀ k, S k → S1 k) : KvW S1 W g gd n m v l := ⟨h.blk, hS _ h.sg, Kd.R_mono h.row (fun k hk => ⟨hS k hk.1, hk.2⟩)⟩
theorem KvW.cell (h : KvW S W g gd n m v l) (j : Nat) : W.cell? ⟨g, j, none⟩ = (kvCells gd n m v)[j]? := blk_cell h.blk j
theorem KvW.frozen (h : KvW S W g gd n m v l) (j : Nat) : W.frozen? ⟨g, j, none⟩ = false := blk_frozen h.blk j
theorem KvW.entry (h : KvW S w g gd n m v l) : ∃ A c, v = .slice A l.length c ∧ ∀ k (hk : k < l.length), ∃ ad : Addr, A = some ad ∧ w.cell? (ad.add (k * 2)) = some (.string (l[k]).f0) ∧ w.cell? ⟨(ad.add (k * 2)).block, (ad.add (k * 2)).off + 1, none⟩ = some (.string (l[k]).f1) := by
  obtain ⟨A, c, ev⟩ := Kd.R_slice h.row
  refine ⟨A, c, ev, fun k hk => ?_⟩
  have hr := h.row
  rw [ev] at hr
  have hC := (Kd.R_reads' hr).2.2
  obtain ⟨ad, e, h0, h1⟩ := at_T54 hC (k : Int) (by omega) (by omega)
  have er : rd_T54 l (k : Int) = l[k] := by
    unfold rd_T54
    rw [Int.toNat_natCast, List.getD_eq_getElem?_getD, List.getElem?_eq_getElem hk]
    rfl
  rw [er] at h0 h1
  rw [Int.toNat_natCast] at h0 h1
  exact ⟨ad, e, h0, h1⟩
theorem k2_eq (k : ByteArray) (s : ByteArray) : (k.toList == s.toList) = decide (k = s) := ba_beq k s
set_option maxHeartbeats 2000000 in
set_option maxRecDepth 100000 in
theorem at1_Q (W : World) (k u s : ByteArray) (kb : Nat) (hc : W.cell? ⟨kb, 0, none⟩ = some (.string s)) : Calls Try.prog 64 #[.agg #[.string k, .string u], .pointer (some ⟨kb, 0, none⟩)] W fun e W' => e = .returned (.bool (decide (k = s))) ∧ Below W.heap.size W W' := by
  have hu := Try.underlying82
  have hlt := World.block_lt_of_cell? W _ hc
  have hb := below_alloc (Below.refl W.heap.size W) (.cells #[.string k, .string u] 82 (0, 0))
  have hc2 := pw_cell_below hb hc
  have hbx := blk_new W (.cells #[.string k, .string u] 82 (0, 0))
  have k0 : (W.alloc (.cells #[.string k, .string u] 82 (0, 0))).cell? ⟨W.heap.size, 0, none⟩ = some (.string k) := (blk_cell hbx 0).trans rfl
  clear hlt hc hbx
  rw [← k2_eq]
  go_enter Try.func64, Try.ntmps64
  go_wp2
  go_ret
  exact ⟨rfl, hb⟩
set_option maxHeartbeats 2000000 in
set_option maxRecDepth 100000 in
theorem Index_Q (h : KvW S w g gd n m v l) (s : ByteArray) (kb : Nat) (hc : w.cell? ⟨kb, 0, none⟩ = some (.string s)) (hl : l.length ≤ 1048576) : Calls Try.prog 63 #[v, .func (.func 64) #[] #[.pointer (some ⟨kb, 0, none⟩)]] w fun e w' => e = .returned (.int .i64 (atE l s)) ∧ Below w.heap.size w w' := by
  have hu := Try.underlying82
  obtain ⟨A, c, ev, hall⟩ := h.entry
  subst ev
  have HAll := Aside0.mk hall
  have HL := Aside0.mk hl
  have HC := Aside0.mk hc
  clear h hall hl hc
  obtain ⟨q, hq⟩ : ∃ q, q = l.length := ⟨_, rfl⟩
  have HN := Aside0.mk hq
  rw [← hq]
  clear hq
  have he := enters_ Try.func64 (by kernel_rfl) (by kernel_rfl)
  go_enter Try.func63, Try.ntmps63
  go_wp2
  go_loopw [8] (fun i wr => ∃ k : Nat, k ≤ q ∧ i = .int .i64 (k : Int) ∧ Aside0 (∀ i (h : i < l.length), i < k → l[i].f0 ≠ s) ∧ Aside0 (Below w.heap.size w wr)) (fun i _ => q - (intOf i).toNat)
  case atStart => exact ⟨0, Nat.zero_le _, rfl, ⟨fun i h h2 => absurd h2 (Nat.not_lt_zero _)⟩, ⟨Below.refl _ _⟩⟩
  case round =>
    obtain ⟨k, hk, rfl, HNo, HB⟩ := hrel
    by_cases hlt : k < q
    · have kb1 : decide ((k : Int) < (q : Int)) = true := decide_eq_true (Int.ofNat_lt.2 hlt)
      obtain ⟨ad, rfl, y0, y1⟩ := HAll.out k (by rw [← HN.out]; exact hlt)
      have x0 := pw_cell_below HB.out y0
      have x1 := pw_cell_below HB.out y1
      have hc3 := Aside0.mk (pw_cell_below HB.out HC.out)
      clear y0 y1
      by_cases hq : (l[k]'(by rw [← HN.out]; exact hlt)).f0 = s
      · have HQ := Aside0.mk hq
        have hd : decide ((l[k]'(by rw [← HN.out]; exact hlt)).f0 = s) = true := decide_eq_true hq
        clear hq
        go_wp2_with (first | (go_at_call 64; refine (at1_Q _ _ _ s kb hc3.out).mono ?_; rintro e w2 ⟨rfl, hb⟩; have HB2 := Aside0.mk (HB.out.trans (hb.mono HB.out.size)); rw [hd]; clear hb HB))
        go_ret
        exact ⟨by rw [atE_of (by rw [← HN.out]; exact hlt) HNo.out HQ.out]; rfl, HB2.out⟩
      · have HQ := Aside0.mk hq
        have hd : decide ((l[k]'(by rw [← HN.out]; exact hlt)).f0 = s) = false := decide_eq_false hq
        clear hq
        go_wp2_with (first | (go_at_call 64; refine (at1_Q _ _ _ s kb hc3.out).mono ?_; rintro e w2 ⟨rfl, hb⟩; have HB2 := Aside0.mk (HB.out.trans (hb.mono HB.out.size)); rw [hd]; clear hb HB))
        go_roundw
        case rel => exact ⟨k + 1, hlt, vE hlt (by rw [HN.out]; exact HL.out), ⟨no_stepE HNo.out HQ.out⟩, HB2⟩
        case measure => exact mE hlt (by rw [HN.out]; exact HL.out)
    · have ek : k = q := Nat.le_antisymm hk (Nat.le_of_not_lt hlt)
      subst ek
      have kb1 : decide ((k : Int) < (k : Int)) = false := decide_eq_false (Int.lt_irrefl _)
      go_wp2
      go_ret
      exact ⟨by rw [atE_no (by rw [HN.out] at HNo; exact HNo.out)]; rfl, HB.out⟩
set_option maxHeartbeats 2000000 in
set_option maxRecDepth 100000 in
theorem At_Q (h : KvW S w g gd n m v l) (s : ByteArray) (hl : l.length ≤ 1048576) : Calls Try.prog 36 #[.pointer (some ⟨g, 0, none⟩), .string s] w fun e w' => e = .returned (.int .i64 (atE l s)) ∧ Below w.heap.size w w' := by
  have hb := below_alloc (Below.refl w.heap.size w) (.cells #[.string s] 9)
  have h2 := h.below hb
  have z3 : (w.alloc (.cells #[.string s] 9)).cell? ⟨g, 3, none⟩ = some v := h2.cell 3
  have hk : (w.alloc (.cells #[.string s] 9)).cell? ⟨w.heap.size, 0, none⟩ = some (.string s) := (blk_cell (blk_new w (.cells #[.string s] 9)) 0).trans rfl
  have HI := Aside0.mk (Index_Q h2 s w.heap.size hk hl)
  have HB := Aside0.mk hb
  clear h h2 hk hb hl
  go_enter Try.func36, Try.ntmps36
  go_wp2_with (first | (go_at_call 63; refine HI.out.mono ?_; rintro e w2 ⟨rfl, hb⟩; have HB2 := Aside0.mk (HB.out.trans (hb.mono HB.out.size)); clear hb HB))
  go_ret
  exact ⟨rfl, HB2.out⟩
end
structure Laid (W : World) (g cap : Nat) (cur : Array Value) (l : List E) : Prop where
  blk : W.heap[g]? = some (.cells cur 82 (0, 0))
  size : cur.size = cap * 2
  fits : l.length ≤ cap
  max : cap ≤ maxLen
  at0 : ∀ j (hj : j < l.length), cur[j * 2]? = some (.string (l[j]).f0)
  at1 : ∀ j (hj : j < l.length), cur[j * 2 + 1]? = some (.string (l[j]).f1)
section
variable {W W1 : World} {g cap base : Nat} {cur : Array Value} {l : List E} {ok : Nat → Prop} {v : Value}
theorem kE_M {w : World} {b : Nat} {o : Nat → Prop} {x : E} {cs : List Value} : kE.M w b o x cs ↔ cs = [.string x.f0, .string x.f1] := by
  constructor
  · intro h
    exact k54_openM h
  · rintro rfl
    exact k54_mkM _ _ _ x
theorem laid_of (h : Kd.R kE 82 W base ok v l) : (v = .slice none 0 0 ∧ l = []) ∨ ∃ g cap cur, v = .slice (some ⟨g, 0, none⟩) l.length cap ∧ base ≤ g ∧ ok g ∧ Laid W g cap cur l := by
  obtain ⟨h0, inner, ho, hr⟩ := h
  rcases ho.2 with ⟨rfl, hn⟩ | ⟨g, cap, cur, rfl, hbg, hg, hnc, hcm, hcs, htk⟩
  · exact .inl ⟨rfl, List.eq_nil_of_length_eq_zero hn⟩
  · right
    refine ⟨g, cap, cur, rfl, hbg, h0 g rfl, hg, hcs, hnc, hcm, fun j hj => ?_, fun j hj => ?_⟩
    all_goals
      have h1 := kE_M.1 (hr.2 j _ (List.getElem?_eq_getElem hj))
      have e2 : (kE).sz = 2 := rfl
      rw [e2] at h1 htk
    · have e := congrArg (·[0]?) h1
      simp only [List.getElem?_take, List.getElem?_drop, ← htk, List.getElem?_cons_zero, Nat.add_zero] at e
      rw [if_pos (by omega), if_pos (by omega)] at e
      simpa using e
    · have e := congrArg (·[1]?) h1
      simp only [List.getElem?_take, List.getElem?_drop, ← htk, List.getElem?_cons_zero, List.getElem?_cons_succ] at e
      rw [if_pos (by omega), if_pos (by omega)] at e
      simpa using e
theorem Laid.len (h : Laid W g cap cur l) : cur.toList.length = cap * 2 := by rw [Array.length_toList (xs := cur)]; exact h.size
theorem Laid.row (h : Laid W g cap cur l) (hb : base ≤ g) (hok : ok g) : Kd.R kE 82 W base ok (.slice (some ⟨g, 0, none⟩) l.length cap) l := by
  refine ⟨fun k hk => ?_, cur.toList.take (l.length * 2), ⟨?_, .inr ⟨g, cap, cur, rfl, hb, h.blk, h.fits, h.max, h.size, rfl⟩⟩, ?_, fun j p hp => ?_⟩
  · have : g = k := by simpa [Value.ownBlock] using hk
    subst this
    exact hok
  · rw [List.length_take, h.len]
    have := h.fits
    show min (l.length * 2) (cap * 2) = l.length * 2
    omega
  · rw [List.length_take, h.len]
    have := h.fits
    show min (l.length * 2) (cap * 2) = l.length * 2
    omega
  · obtain ⟨hj, rfl⟩ := List.getElem?_eq_some_iff.1 hp
    refine kE_M.2 ?_
    have e2 : (kE).sz = 2 := rfl
    rw [e2]
    apply List.ext_getElem?
    intro i
    rw [List.getElem?_take, List.getElem?_drop, List.getElem?_take, Array.getElem?_toList]
    rcases i with _ | _ | i
    · rw [if_pos (by omega), if_pos (by omega), Nat.add_zero, h.at0 j hj]; rfl
    · rw [if_pos (by omega), if_pos (by omega), h.at1 j hj]; rfl
    · rw [if_neg (by omega)]; rfl
theorem blk_setCells : ∀ (vs : List Value) (o : Nat) (W : World) (cur : Array Value), W.heap[g]? = some (.cells cur 82 (0, 0)) → (W.setCells g o vs).heap[g]? = some (.cells (Lib.lay cur o vs) 82 (0, 0))
  | [], _, _, _, h => h
  | x :: r, o, W, cur, h => blk_setCells r (o + 1) _ _ (blk_set h o x)
theorem only_setCells {S : Nat → Prop} : ∀ (vs : List Value) (o : Nat) {W0 W : World}, Only S W0 W → S g → Only S W0 (W.setCells g o vs)
  | [], _, _, _, h, _ => h
  | x :: r, o, _, _, h, hs => only_setCells r (o + 1) (h.setCell (g := g) (j := o) (.inl hs) x) hs
theorem Laid.delete (h : Laid W g cap cur l) {i : Nat} (hi : i < l.length) (hb : W1.heap[g]? = some (.cells (Lib.lay (Lib.lay cur (i * 2) ((cur.toList.take (l.length * 2)).drop ((i + 1) * 2))) ((l.length - 1) * 2) [.string ⟨#[]⟩, .string ⟨#[]⟩]) 82 (0, 0))) :
    Laid W1 g cap (Lib.lay (Lib.lay cur (i * 2) ((cur.toList.take (l.length * 2)).drop ((i + 1) * 2))) ((l.length - 1) * 2) [.string ⟨#[]⟩, .string ⟨#[]⟩]) (l.eraseIdx i) := by
  have hf := h.fits
  have hs := h.size
  have hlen : ((cur.toList.take (l.length * 2)).drop ((i + 1) * 2)).length = (l.length - 1 - i) * 2 := by
    rw [List.length_drop, List.length_take, h.len]
    omega
  have he : (l.eraseIdx i).length = l.length - 1 := List.length_eraseIdx_of_lt hi
  have key : ∀ t, t < (l.length - 1) * 2 → (Lib.lay (Lib.lay cur (i * 2) ((cur.toList.take (l.length * 2)).drop ((i + 1) * 2))) ((l.length - 1) * 2) [.string ⟨#[]⟩, .string ⟨#[]⟩])[t]? = if t < i * 2 then cur[t]? else cur[t + 2]? := by
    intro t ht
    rw [Lib.lay_get? _ _ _ _ (by rw [Lib.lay_size, hs]; simp; omega), if_neg (by omega), Lib.lay_get? _ _ _ _ (by rw [hlen, hs]; omega), hlen]
    by_cases c : t < i * 2
    · rw [if_neg (by omega), if_pos c]
    · rw [if_pos (by omega), if_neg c, List.getElem?_drop, List.getElem?_take, if_pos (by omega), Array.getElem?_toList, show (i + 1) * 2 + (t - i * 2) = t + 2 by omega]
  refine ⟨hb, by rw [Lib.lay_size, Lib.lay_size]; exact hs, by rw [he]; omega, h.max, fun j hj => ?_, fun j hj => ?_⟩
  all_goals
    rw [he] at hj
    rw [key _ (by omega), List.getElem_eraseIdx]
    by_cases c : j < i
  · rw [if_pos (by omega), dif_pos c]; exact h.at0 j (by omega)
  · rw [if_neg (by omega), dif_neg c, show j * 2 + 2 = (j + 1) * 2 by omega]; exact h.at0 (j + 1) (by omega)
  · rw [if_pos (by omega), dif_pos c]; exact h.at1 j (by omega)
  · rw [if_neg (by omega), dif_neg c, show j * 2 + 1 + 2 = (j + 1) * 2 + 1 by omega]; exact h.at1 (j + 1) (by omega)
theorem clear_one (w : World) (t e ty : TypeId) (ht : Try.prog.underlying t = some (.slice e)) (hv : ∀ w, (zeroValue e).run Try.prog w = .ok (.agg #[.string ⟨#[]⟩, .string ⟨#[]⟩]) w) (b o c : Nat)
    (hc : ∀ j, j < 2 → (w.cell? ⟨b, o + j, none⟩).isSome = true) (hf : ∀ j, j < 2 → w.frozen? ⟨b, o + j, none⟩ = false) :
    (Builtin.clear_ #[t] ty #[.slice (some ⟨b, o, none⟩) 1 c]).run Try.prog w = .ok (.tuple #[]) (w.setCells b o [.string ⟨#[]⟩, .string ⟨#[]⟩]) := by
  have hst := run_storeCells_cells (P := Try.prog) b o [.string ⟨#[]⟩, .string ⟨#[]⟩] 0 w (by simpa using hc) (by simpa using hf) (by intro v hv'; simp at hv'; subst hv'; rfl)
  simp only [Nat.add_zero] at hst
  have hz : (Builtin.zeroCells (Value.agg #[.string ⟨#[]⟩, .string ⟨#[]⟩]).cells 1).toList = [.string ⟨#[]⟩, .string ⟨#[]⟩] := by kernel_rfl
  simp [Builtin.clear_, run_underlying ht, hv, hz, hst]
end
theorem infoE : (Try.prog.info? 82).map (fun i => (i.zero, i.size, i.bytes)) = some (some (.agg #[.string ⟨#[]⟩, .string ⟨#[]⟩]), 2, 32) := by kernel_rfl
theorem zeroE (w : World) : (zeroValue 82).run Try.prog w = .ok (.agg #[.string ⟨#[]⟩, .string ⟨#[]⟩]) w := by kernel_rfl
set_option maxHeartbeats 4000000 in
set_option maxRecDepth 100000 in
theorem Delete_Q {w : World} {g cap i j : Nat} {cur : Array Value} {l : List E} (h : Laid w g cap cur l) (ej : j = i + 1) (hi : i < l.length) (hl : l.length ≤ 1048576) :
    Calls Try.prog 76 #[.slice (some ⟨g, 0, none⟩) l.length cap, .int .i64 (i : Int), .int .i64 (j : Int)] w fun e w' => e = .returned (.slice (some ⟨g, 0, none⟩) (l.length - 1) cap) ∧ (∃ cur', Laid w' g cap cur' (l.eraseIdx i)) ∧ Only (fun k => k = g) w w' := by
  obtain ⟨n, hn⟩ : ∃ n, n = l.length := ⟨_, rfl⟩
  have hf := h.fits
  rw [← hn] at hf hi hl ⊢
  have HL := Aside0.mk h
  have HN := Aside0.mk hn
  have hij : i ≤ j := by omega
  have hj : j ≤ n := by omega
  have hic : i ≤ cap := by omega
  have hjc : j ≤ cap := by omega
  have hne : ¬ i = j := by omega
  obtain ⟨news, hnews⟩ : ∃ news, news = (cur.toList.take (n * 2)).drop (j * 2) := ⟨_, rfl⟩
  have hlen : news.length = (n - j) * 2 := by
    rw [hnews, List.length_drop, List.length_take, h.len]
    omega
  have hget : ∀ t u, news[t]? = some u → cur[j * 2 + t]? = some u := by
    intro t u hu
    rw [hnews, List.getElem?_drop, List.getElem?_take] at hu
    split at hu
    · rwa [Array.getElem?_toList] at hu
    · cases hu
  obtain ⟨A, hA, hsrc⟩ : ∃ A : Addr, (if cap = j then some (⟨g, 0, none⟩ : Addr) else some ⟨g, j * 2, none⟩) = some A ∧ ∀ t u, news[t]? = some u → w.drew.cell? (A.add t) = some u := by
    by_cases c : cap = j
    · refine ⟨⟨g, 0, none⟩, by rw [if_pos c], fun t u hu => ?_⟩
      have := (List.getElem?_eq_some_iff.1 hu).1
      omega
    · refine ⟨⟨g, j * 2, none⟩, by rw [if_neg c], fun t u hu => ?_⟩
      rw [Addr.add_lit]
      exact (blk_cell h.blk _).trans (hget t u hu)
  have hone : ∀ u ∈ news, u.oneCell' = true := by
    intro u hu
    obtain ⟨t, ht, rfl⟩ := List.getElem_of_mem hu
    have e := hget t _ (List.getElem?_eq_getElem ht)
    rcases Nat.mod_two_eq_zero_or_one t with c | c
    · have := h.at0 (j + t / 2) (by omega)
      rw [show (j + t / 2) * 2 = j * 2 + t by omega, e] at this
      injection this with this
      rw [this]; rfl
    · have := h.at1 (j + t / 2) (by omega)
      rw [show (j + t / 2) * 2 + 1 = j * 2 + t by omega, e] at this
      injection this with this
      rw [this]; rfl
  have hspare : ∀ t, t < news.length → (w.drew.cell? ⟨g, 0 + i * 2 + t, none⟩).isSome = true ∧ w.drew.frozen? ⟨g, 0 + i * 2 + t, none⟩ = false := by
    intro t ht
    refine ⟨?_, blk_frozen h.blk _⟩
    rw [show w.drew.cell? ⟨g, 0 + i * 2 + t, none⟩ = cur[0 + i * 2 + t]? from blk_cell h.blk _, Array.getElem?_eq_getElem (by rw [h.size]; omega)]
    rfl
  obtain ⟨W1, hW1⟩ : ∃ W1, W1 = w.drew.setCells g (0 + i * 2) news := ⟨_, rfl⟩
  have hb1 : W1.heap[g]? = some (.cells (Lib.lay cur (i * 2) news) 82 (0, 0)) := by
    rw [hW1, Nat.zero_add]
    exact blk_setCells news (i * 2) w.drew cur h.blk
  have ho1 : Only (fun k => k = g) w W1 := by
    rw [hW1]
    exact only_setCells news _ ((Only.refl _ w).drewN 1) rfl
  have hcl : ∀ ty, (Builtin.clear_ #[68] ty #[.slice (some ⟨g, (i + (n - j)) * 2, none⟩) (n - (i + (n - j))) (cap - (i + (n - j)))]).run Try.prog W1 = .ok (.tuple #[]) (W1.setCells g ((i + (n - j)) * 2) [.string ⟨#[]⟩, .string ⟨#[]⟩]) := by
    intro ty
    rw [show n - (i + (n - j)) = 1 by omega]
    refine clear_one W1 _ _ ty Try.underlying68 zeroE g _ _ (fun t ht => ?_) (fun t ht => blk_frozen hb1 _)
    rw [blk_cell hb1, Array.getElem?_eq_getElem (by rw [Lib.lay_size, h.size]; omega)]
    rfl
  have HO := Aside0.mk ho1
  have HB1 := Aside0.mk hb1
  have HNews := Aside0.mk hnews
  have HW1 := Aside0.mk hW1
  have S1 := Aside0.mk hlen
  have S2 := Aside0.mk hsrc
  have S3 := Aside0.mk hone
  have S4 := Aside0.mk hspare
  have c1 : i + (n - j) ≤ n := by omega
  have c2 : n ≤ cap := hf
  have c3 : i + (n - j) ≤ cap := by omega
  have EJ := Aside0.mk ej
  clear h hn hnews hlen hget hsrc hone hspare hW1 hb1 ho1 ej
  obtain ⟨ti, hti, _, hts, _⟩ := info_parts infoE
  go_enter Try.func76, Try.ntmps76
  go_wp2_with fail
  refine start_ (n := 8) (S := fun _ => True) (ds := []) #[false, false, false, false, false, false, false, false] (by kernel_rfl) rfl rfl trivial (fun hHeld => ?_)
  refine pure_ (i := 0) (N := some 20) (v := ?_) (a' := ?_) #[true, false, false, false, false, false, false, false] rfl rfl (by kernel_rfl) (fun _ _ _ h => h) (Or.inl ⟨by rfl, ?_⟩) ?_ ?_
  rotate_left
  · intro w'
    go_simp
    with_reducible rfl
  rotate_left
  · simp only [Act.put, List.setIfInBounds_toArray, List.set_cons_zero, List.set_cons_succ, i64_w, i32_w]
    rfl
  refine pure_ (i := 1) (N := some 21) (v := ?_) (a' := ?_) #[true, true, false, false, false, false, false, false] rfl rfl (by kernel_rfl) (fun _ _ _ h => h) (Or.inl ⟨by rfl, ?_⟩) ?_ ?_
  rotate_left
  · intro w'
    go_simp
    with_reducible rfl
  rotate_left
  · simp only [Act.put, List.setIfInBounds_toArray, List.set_cons_zero, List.set_cons_succ, i64_w, i32_w]
    rfl
  refine pure_ (i := 2) (N := some 22) (v := ?_) (a' := ?_) #[true, true, true, false, false, false, false, false] rfl rfl (by kernel_rfl) (fun _ _ _ h => h) (Or.inl ⟨by rfl, ?_⟩) ?_ ?_
  rotate_left
  · intro w'
    go_simp
    with_reducible rfl
  rotate_left
  · simp only [Act.put, List.setIfInBounds_toArray, List.set_cons_zero, List.set_cons_succ, i64_w, i32_w]
    rfl
  refine pure_ (i := 3) (N := some 23) (v := ?_) (a' := ?_) #[true, true, true, true, false, false, false, false] rfl rfl (by kernel_rfl) (fun _ _ _ h => h) (Or.inl ⟨by rfl, ?_⟩) ?_ ?_
  rotate_left
  · intro w'
    go_simp
    with_reducible rfl
  rotate_left
  · simp only [Act.put, List.setIfInBounds_toArray, List.set_cons_zero, List.set_cons_succ, i64_w, i32_w]
    rfl
  refine pure_ (i := 4) (N := some 24) (v := ?_) (a' := ?_) #[true, true, true, true, true, false, false, false] rfl rfl (by kernel_rfl) (fun _ _ _ h => h) (Or.inl ⟨by rfl, ?_⟩) ?_ ?_
  rotate_left
  · intro w'
    go_simp
    with_reducible rfl
  rotate_left
  · simp only [Act.put, List.setIfInBounds_toArray, List.set_cons_zero, List.set_cons_succ, i64_w, i32_w]
    rfl
  refine pure_ (i := 5) (N := some 25) (v := ?_) (a' := ?_) #[true, true, true, true, true, true, false, false] rfl rfl (by kernel_rfl) (fun _ _ _ h => h) (Or.inl ⟨by rfl, ?_⟩) ?_ ?_
  rotate_left
  · intro w'
    go_simp
    with_reducible rfl
  rotate_left
  · simp only [Act.put, List.setIfInBounds_toArray, List.set_cons_zero, List.set_cons_succ, i64_w, i32_w]
    rfl
  refine one_ (i := 6) (N := some 26) #[true, true, true, true, true, true, true, false] rfl rfl (by kernel_rfl) (by decide) (fun K hK => ?_)
  refine step_append_room rfl (.tmp 22) (.tmp 25) 68 rfl 82 ti 2 Try.underlying68 hti hts g 0 i cap rfl A (n - j) (cap - j) news rfl S1.out S2.out S3.out (by omega) S4.out ?_
  rw [← HW1.out]
  refine hK.out _ _ trivial (fun hHeld => ?_)
  clear hK K
  refine norm_ (a' := ?_) ?_ ?_
  rotate_left
  · show Act.put _ (some 26) _ = _
    simp only [Act.put, List.setIfInBounds_toArray, List.set_cons_zero, List.set_cons_succ, i64_w, i32_w]
    rfl
  refine pure_ (i := 7) (N := some 0) (v := ?_) (a' := ?_) #[true, true, true, true, true, true, true, true] rfl rfl (by kernel_rfl) (fun _ _ _ h => h) (Or.inl ⟨by rfl, ?_⟩) ?_ ?_
  rotate_left
  · intro w'
    go_simp
    with_reducible rfl
  rotate_left
  · simp only [Act.put, List.setIfInBounds_toArray, List.set_cons_zero, List.set_cons_succ, i64_w, i32_w]
    rfl
  refine done_ (by kernel_rfl) ?_
  obtain ⟨q, hq⟩ : ∃ q, q = i + (n - j) := ⟨_, rfl⟩
  rw [← hq] at c1 c3 hcl ⊢
  have hn1 : q = n - 1 := by rw [hq, EJ.out]; omega
  have HQ := Aside0.mk hn1
  have hcq : ¬ cap = q := by omega
  clear hq hn1
  go_wp2
  go_ret
  have hw : (W1.setCells g (q * 2) [.string ⟨#[]⟩, .string ⟨#[]⟩]).heap[g]? = some (.cells (Lib.lay (Lib.lay cur (i * 2) news) (q * 2) [.string ⟨#[]⟩, .string ⟨#[]⟩]) 82 (0, 0)) := blk_setCells _ _ _ _ HB1.out
  have hw' : (W1.setCells g (q * 2) [.string ⟨#[]⟩, .string ⟨#[]⟩]).heap[g]? = some (.cells (Lib.lay (Lib.lay cur (i * 2) ((cur.toList.take (l.length * 2)).drop ((i + 1) * 2))) ((l.length - 1) * 2) [.string ⟨#[]⟩, .string ⟨#[]⟩]) 82 (0, 0)) := by
    rw [hw, HNews.out, EJ.out, HQ.out, HN.out]
  exact ⟨by rw [HQ.out]; rfl, ⟨_, HL.out.delete (by rw [← HN.out]; exact hi) hw'⟩, only_setCells _ _ HO.out rfl⟩
def dropE (l : List E) (s : ByteArray) : List E := if 0 ≤ atE l s then l.eraseIdx (atE l s).toNat else l
theorem atE_lt {l : List E} {s : ByteArray} (h : 0 ≤ atE l s) : ∃ i : Nat, atE l s = (i : Int) ∧ i < l.length := by
  unfold atE at h ⊢
  cases e : l.findIdx? (fun f => decide (f.f0 = s)) with
  | none => rw [e] at h; exact absurd h (by decide)
  | some i => exact ⟨i, rfl, (List.findIdx?_eq_some_iff_getElem.1 e).1⟩
section
variable {S S1 : Nat → Prop} {W W1 w : World} {g gd : Nat} {n : ByteArray} {m : Int} {v v1 : Value} {l l1 : List E} {x : E}
theorem ent_ne : ∀ q, q ∈ 82 :: kE.E → q ≠ 70 := by
  intro q hq
  have hE : kE.E = [] := rfl
  rw [hE] at hq
  rcases List.mem_cons.1 hq with rfl | h
  · decide
  · cases h
theorem KvW.own_ne (h : KvW S W g gd n m v l) : some g ≠ v.ownBlock := fun e => (h.row.1 g e.symm).2 rfl
theorem KvW.stored (h : KvW S W g gd n m v l) (hb : W1.heap[g]? = some (.cells (kvCells gd n m v) 70 (0, 0))) (hS : ∀ k, S k → S1 k) (hr : Kd.R kE 82 W1 0 (fun k => S1 k ∧ k ≠ g) v1 l1) : KvW S1 (W1.setCell ⟨g, 3, none⟩ v1) g gd n m v1 l1 :=
  ⟨by rw [blk_set hb 3 v1]; rfl, hS _ h.sg, Kd.R_set hr hb ent_ne 3 v1⟩
theorem KvW.appended (h : KvW S W g gd n m v l) (hr : Kd.R kE 82 W1 0 (fun k => Grow S W k ∧ k ≠ g) v1 (l ++ [x])) (hg : W.grownBy W1 v.ownBlock) :
    KvW (Grow S W) (W1.setCell ⟨g, 3, none⟩ v1) g gd n m v1 (l ++ [x]) ∧ Only S W (W1.setCell ⟨g, 3, none⟩ v1) := by
  have b1 := blk_grown h.blk hg h.own_ne
  refine ⟨h.stored b1 (fun _ hk => .inl hk) hr, ((Only.refl S W).grown hg (fun k hk => .inl (h.row.1 k hk).1)).setCell (.inl h.sg) _⟩
theorem KvW.trim (h : KvW S W g gd n m v l) : KvW (fun k => S k ∧ k < W.heap.size) W g gd n m v l :=
  ⟨h.blk, ⟨h.sg, blk_lt h.blk⟩, Kd.R_mono (Kd.R_bound h.row) (fun k hk => ⟨⟨hk.1.1, hk.2.2.1⟩, hk.1.2⟩)⟩
set_option maxHeartbeats 2000000 in
set_option maxRecDepth 100000 in
theorem drop_Q (h : KvW S w g gd n m v l) (s : ByteArray) (hl : l.length ≤ 1048576) : Calls Try.prog 62 #[.pointer (some ⟨g, 0, none⟩), .string s] w fun e w' => e = .returned (.tuple #[]) ∧ ∃ v', KvW S w' g gd n m v' (dropE l s) ∧ Only S w w' := by
  have HA := Aside0.mk (At_Q h s hl)
  unfold dropE
  by_cases c : 0 ≤ atE l s
  · obtain ⟨i, hi, hil⟩ := atE_lt c
    rw [if_pos c]
    rw [hi] at HA ⊢
    rw [Int.toNat_natCast]
    have cb : decide (0 ≤ (i : Int)) = true := decide_eq_true (Int.natCast_nonneg i)
    rcases laid_of h.row with ⟨_, e0⟩ | ⟨g0, cap, cur, rfl, _, ⟨hs0, hn0⟩, hL⟩
    · subst e0; cases hil
    have hw1 : wrap64 ((i : Int) + 1) = ((i + 1 : Nat) : Int) := by rw [w64 (by omega) (by omega)]; rfl
    have H := Aside0.mk h
    have HLd := Aside0.mk hL
    have HI := Aside0.mk hil
    have HLn := Aside0.mk hl
    have HSn := Aside0.mk (And.intro hs0 hn0)
    clear h hL hl hil hi c hs0 hn0
    obtain ⟨q, hq⟩ : ∃ q, q = l.length := ⟨_, rfl⟩
    have HQ := Aside0.mk hq
    rw [← hq] at H
    clear hq
    go_enter Try.func62, Try.ntmps62
    go_wp2_with (first
      | (go_at_call 36; refine HA.out.mono ?_; rintro e w1 ⟨rfl, hb⟩; have H1 := Aside0.mk (H.out.below hb); have HB1 := Aside0.mk hb; have z3 : w1.cell? ⟨g, 3, none⟩ = some (.slice (some ⟨g0, 0, none⟩) q cap) := H1.out.cell 3; clear hb HA)
      | (go_at_call 76; have HL1 := Aside0.mk (Laid.mk ((HB1.out.block g0 (blk_lt HLd.out.blk)).trans HLd.out.blk) HLd.out.size HLd.out.fits HLd.out.max HLd.out.at0 HLd.out.at1); rw [HQ.out]; refine (Delete_Q HL1.out rfl HI.out HLn.out).mono ?_; rintro e w2 ⟨rfl, ⟨cur', hc⟩, ho⟩; have hb2 := Aside0.mk ((ho.block g (blk_lt H1.out.blk) (fun hk => HSn.out.2 hk.symm)).trans H1.out.blk); have z3' : w2.cell? ⟨g, 3, none⟩ = some (.slice (some ⟨g0, 0, none⟩) q cap) := (blk_cell hb2.out 3).trans rfl; have f3 := blk_frozen hb2.out 3; have HCu := Aside0.mk hc; have HO := Aside0.mk ho; clear hc ho z3))
    go_end0
    have hlen : l.length - 1 = (l.eraseIdx i).length := (List.length_eraseIdx_of_lt HI.out).symm
    refine ⟨rfl, .slice (some ⟨g0, 0, none⟩) (l.length - 1) cap, ?_, ?_⟩
    · have hz := H1.out.stored hb2.out (fun _ hk => hk) (HCu.out.row (Nat.zero_le _) HSn.out)
      rw [← hlen] at hz
      exact hz
    · exact ((((Only.refl S w).below HB1.out).trans (HO.out.mono (fun k hk => by subst hk; exact HSn.out.1)))).setCell (.inl H1.out.sg) _
  · rw [if_neg c]
    have cb : decide (0 ≤ atE l s) = false := decide_eq_false c
    obtain ⟨a, ha⟩ : ∃ a, a = atE l s := ⟨_, rfl⟩
    rw [← ha] at HA cb
    have H := Aside0.mk h
    clear h c ha hl
    go_enter Try.func62, Try.ntmps62
    go_wp2_with (first | (go_at_call 36; refine HA.out.mono ?_; rintro e w1 ⟨rfl, hb⟩; have HB1 := Aside0.mk hb; clear hb HA))
    go_end0
    exact ⟨rfl, v, H.out.below HB1.out, (Only.refl S w).below HB1.out⟩
end
def splitS (s : ByteArray) : Option (List ByteArray) := if s.size > 1048576 then none else (Co.splitL (bytesOf s)).map (·.map strOfNums)
theorem Split_ok (W : World) {s : ByteArray} {ps : List ByteArray} (h : splitS s = some ps) : Calls Try.prog 61 #[.string s] W fun e W' => ∃ A c, e = .returned (.tuple #[.slice A ps.length c, .int .i64 0]) ∧ (∀ j (hj : j < ps.length), ∃ q, A = some ⟨q, 0, none⟩ ∧ W.heap.size ≤ q ∧ W'.cell? ⟨q, j, none⟩ = some (.string ps[j])) ∧ Below W.heap.size W W' := by
  have he := Co.split_ev s
  unfold splitS at h
  split at h
  · cases h
  rename_i hc
  obtain ⟨qs, hq, rfl⟩ := Option.map_eq_some_iff.1 h
  rw [if_neg hc, hq] at he
  obtain ⟨K, hK⟩ := he
  refine (code_Split.calls K s (qs.map strOfNums) 0 W (hK K (Nat.le_refl _))).mono ?_
  rintro e W' ⟨v, rfl, hr, hb⟩
  obtain ⟨A, c, rfl⟩ := Kd.R_slice hr
  refine ⟨A, c, rfl, fun j hj => ?_, hb⟩
  obtain ⟨inner, ho⟩ := Kd.R_own hr
  rcases ho.2 with ⟨e1, hn⟩ | ⟨q, cap, cur, e1, hbg, hg, hnc, _⟩
  · omega
  · injection e1 with e1
    subst e1
    obtain ⟨a, ea, hcell⟩ := Kd.at_string (Kd.R_reads' hr).2.2 (j : Int) (by omega) (by omega)
    injection ea with ea
    subst ea
    rw [Int.toNat_natCast, Addr.add_lit, Nat.zero_add] at hcell
    refine ⟨q, rfl, hbg, ?_⟩
    rw [hcell]
    unfold rdOf
    rw [Int.toNat_natCast, List.getD_eq_getElem?_getD, List.getElem?_eq_getElem hj]
    rfl
def putT : ByteArray := ⟨#[112, 117, 116]⟩
def goneT : ByteArray := ⟨#[103, 111, 110, 101]⟩
def doneE (l : List E) (s : ByteArray) : Option (List E) := match splitS s with
  | some [a, k, u] => if a = putT then some (dropE l k ++ [⟨k, u⟩]) else none
  | some [a, k] => if a = goneT then some (dropE l k) else none
  | _ => none
section
variable {S : Nat → Prop} {w : World} {g gd : Nat} {n : ByteArray} {m : Int} {v : Value} {l : List E} {s k u : ByteArray}
theorem dropE_le (l : List E) (s : ByteArray) : (dropE l s).length ≤ l.length := by
  unfold dropE
  split
  · exact List.length_eraseIdx_le _ _
  · exact Nat.le_refl _
set_option maxHeartbeats 4000000 in
set_option maxRecDepth 100000 in
theorem done_put (h : KvW S w g gd n m v l) (hS : ∀ j, S j → j < w.heap.size) (hs : splitS s = some [putT, k, u]) (hl : l.length ≤ 1048576) : Calls Try.prog 35 #[.pointer (some ⟨g, 0, none⟩), .string s] w fun e w' => e = .returned (.bool true) ∧ ∃ v', KvW (Grow S w) w' g gd n m v' (dropE l k ++ [⟨k, u⟩]) ∧ Only S w w' := by
  have H := Aside0.mk h
  have HS := Aside0.mk hS
  have HSp := Aside0.mk (fun W => Split_ok W hs)
  have HLn := Aside0.mk hl
  clear h hS hs hl
  go_enter Try.func35, Try.ntmps35
  go_wp2_with (first
    | (go_at_call 61; refine (HSp.out _).mono ?_; rintro e w1 ⟨A, c, rfl, hcl, hb⟩; obtain ⟨q, rfl, hq, y0⟩ := hcl 0 (by simp); obtain ⟨q1, e1, _, y1⟩ := hcl 1 (by simp); cases e1; obtain ⟨q2, e2, _, y2⟩ := hcl 2 (by simp); cases e2; have H1 := Aside0.mk (H.out.below hb); have HB := Aside0.mk hb; have HNS := Aside0.mk (show ¬ S q from fun hk => Nat.lt_irrefl _ (Nat.lt_of_lt_of_le (HS.out q hk) hq)); change w1.cell? ⟨q, 0, none⟩ = some (.string ⟨#[112, 117, 116]⟩) at y0; change w1.cell? ⟨q, 1, none⟩ = some (.string k) at y1; change w1.cell? ⟨q, 2, none⟩ = some (.string u) at y2; clear hcl hb HSp hq H)
    | (go_at_call 62; refine (drop_Q H1.out k HLn.out).mono ?_; rintro e w2 ⟨rfl, v2, h2, ho2⟩; have H2 := Aside0.mk h2; have HO2 := Aside0.mk ho2; have x1 := ho2.cell y1 HNS.out; have x2 := ho2.cell y2 HNS.out; clear h2 ho2 y0 y1 y2 H1))
  obtain ⟨A2, k2, ev⟩ := Kd.R_slice H2.out.row
  subst ev
  obtain ⟨q2, hq2⟩ : ∃ q2, q2 = (dropE l k).length := ⟨_, rfl⟩
  rw [← hq2] at H2
  have HLn2 := Aside0.mk (show (dropE l k).length ≤ 1048576 from Nat.le_trans (dropE_le l k) HLn.out)
  clear hq2
  have z3 : w2.cell? ⟨g, 3, none⟩ = some (.slice A2 q2 k2) := H2.out.cell 3
  refine start_ (n := 17) (S := fun w' => w'.cell? ⟨g, 3, none⟩ = some (.slice A2 q2 k2) ∧ w'.cell? ⟨q, 1, none⟩ = some (.string k) ∧ w'.cell? ⟨q, 2, none⟩ = some (.string u)) (ds := [16]) #[false, false, false, false, false, false, false, false, false, false, false, false, false, false, false, false, false] (by kernel_rfl) rfl rfl ⟨z3, x1, x2⟩ (fun hHeld => ?_)
  refine pure_ (i := 0) (N := some 31) (v := ?_) (a' := ?_) #[true, false, false, false, false, false, false, false, false, false, false, false, false, false, false, false, false] rfl rfl (by kernel_rfl) (fun _ _ _ h => h) (Or.inl ⟨by rfl, ?_⟩) ?_ ?_
  rotate_left
  · intro w'
    go_simp
    with_reducible rfl
  rotate_left
  · simp only [Act.put, List.setIfInBounds_toArray, List.set_cons_zero, List.set_cons_succ, i64_w, i32_w]
    rfl
  refine pure_ (i := 1) (N := some 32) (v := ?_) (a' := ?_) #[true, true, false, false, false, false, false, false, false, false, false, false, false, false, false, false, false] rfl rfl (by kernel_rfl) (fun _ _ _ h => h) (Or.inl ⟨by rfl, ?_⟩) ?_ ?_
  rotate_left
  · intro w'
    go_simp
    with_reducible rfl
  rotate_left
  · simp only [Act.put, List.setIfInBounds_toArray, List.set_cons_zero, List.set_cons_succ, i64_w, i32_w]
    rfl
  refine pure_ (i := 2) (N := some 33) (v := ?_) (a' := ?_) #[true, true, true, false, false, false, false, false, false, false, false, false, false, false, false, false, false] rfl rfl (by kernel_rfl) (fun _ _ _ h => h) (Or.inl ⟨by rfl, ?_⟩) ?_ ?_
  rotate_left
  · intro w'
    go_simp
    with_reducible rfl
  rotate_left
  · simp only [Act.put, List.setIfInBounds_toArray, List.set_cons_zero, List.set_cons_succ, i64_w, i32_w]
    rfl
  refine pure_ (i := 3) (N := some 34) (v := ?_) (a' := ?_) #[true, true, true, true, false, false, false, false, false, false, false, false, false, false, false, false, false] rfl rfl (by kernel_rfl) (fun _ _ _ h => h) (Or.inl ⟨by rfl, ?_⟩) ?_ ?_
  rotate_left
  · intro w'
    go_simp
    with_reducible rfl
  rotate_left
  · simp only [Act.put, List.setIfInBounds_toArray, List.set_cons_zero, List.set_cons_succ, i64_w, i32_w]
    rfl
  refine take_ (i := 4) (N := some 35) (v := ?_) (a' := ?_) #[true, true, true, true, true, false, false, false, false, false, false, false, false, false, false, false, false] rfl rfl (by kernel_rfl) (fun _ _ _ h => h) (Or.inl ⟨by rfl, ?_⟩) hHeld ?_ ?_
  rotate_left
  · intro w' s0
    obtain ⟨s0, s1, s2⟩ := s0
    go_simp
    with_reducible rfl
  rotate_left
  · simp only [Act.put, List.setIfInBounds_toArray, List.set_cons_zero, List.set_cons_succ, i64_w, i32_w]
    rfl
  refine pure_ (i := 5) (N := some 36) (v := ?_) (a' := ?_) #[true, true, true, true, true, true, false, false, false, false, false, false, false, false, false, false, false] rfl rfl (by kernel_rfl) (fun _ _ _ h => h) (Or.inl ⟨by rfl, ?_⟩) ?_ ?_
  rotate_left
  · intro w'
    go_simp
    with_reducible rfl
  rotate_left
  · simp only [Act.put, List.setIfInBounds_toArray, List.set_cons_zero, List.set_cons_succ, i64_w, i32_w]
    rfl
  refine pure_ (i := 6) (N := some 37) (v := ?_) (a' := ?_) #[true, true, true, true, true, true, true, false, false, false, false, false, false, false, false, false, false] rfl rfl (by kernel_rfl) (fun _ _ _ h => h) (Or.inl ⟨by rfl, ?_⟩) ?_ ?_
  rotate_left
  · intro w'
    go_simp
    with_reducible rfl
  rotate_left
  · simp only [Act.put, List.setIfInBounds_toArray, List.set_cons_zero, List.set_cons_succ, i64_w, i32_w]
    rfl
  refine take_ (i := 7) (N := some 38) (v := ?_) (a' := ?_) #[true, true, true, true, true, true, true, true, false, false, false, false, false, false, false, false, false] rfl rfl (by kernel_rfl) (fun _ _ _ h => h) (Or.inl ⟨by rfl, ?_⟩) hHeld ?_ ?_
  rotate_left
  · intro w' s0
    obtain ⟨s0, s1, s2⟩ := s0
    go_simp
    with_reducible rfl
  rotate_left
  · simp only [Act.put, List.setIfInBounds_toArray, List.set_cons_zero, List.set_cons_succ, i64_w, i32_w]
    rfl
  refine pure_ (i := 8) (N := some 39) (v := ?_) (a' := ?_) #[true, true, true, true, true, true, true, true, true, false, false, false, false, false, false, false, false] rfl rfl (by kernel_rfl) (fun _ _ _ h => h) (Or.inl ⟨by rfl, ?_⟩) ?_ ?_
  rotate_left
  · intro w'
    go_simp
    with_reducible rfl
  rotate_left
  · simp only [Act.put, List.setIfInBounds_toArray, List.set_cons_zero, List.set_cons_succ, i64_w, i32_w]
    rfl
  refine pure_ (i := 9) (N := some 40) (v := ?_) (a' := ?_) #[true, true, true, true, true, true, true, true, true, true, false, false, false, false, false, false, false] rfl rfl (by kernel_rfl) (fun _ _ _ h => h) (Or.inl ⟨by rfl, ?_⟩) ?_ ?_
  rotate_left
  · intro w'
    go_simp
    with_reducible rfl
  rotate_left
  · simp only [Act.put, List.setIfInBounds_toArray, List.set_cons_zero, List.set_cons_succ, i64_w, i32_w]
    rfl
  refine take_ (i := 10) (N := some 41) (v := ?_) (a' := ?_) #[true, true, true, true, true, true, true, true, true, true, true, false, false, false, false, false, false] rfl rfl (by kernel_rfl) (fun _ _ _ h => h) (Or.inl ⟨by rfl, ?_⟩) hHeld ?_ ?_
  rotate_left
  · intro w' s0
    obtain ⟨s0, s1, s2⟩ := s0
    go_simp
    with_reducible rfl
  rotate_left
  · simp only [Act.put, List.setIfInBounds_toArray, List.set_cons_zero, List.set_cons_succ, i64_w, i32_w]
    rfl
  refine pure_ (i := 11) (N := some 42) (v := ?_) (a' := ?_) #[true, true, true, true, true, true, true, true, true, true, true, true, false, false, false, false, false] rfl rfl (by kernel_rfl) (fun _ _ _ h => h) (Or.inl ⟨by rfl, ?_⟩) ?_ ?_
  rotate_left
  · intro w'
    go_simp
    with_reducible rfl
  rotate_left
  · simp only [Act.put, List.setIfInBounds_toArray, List.set_cons_zero, List.set_cons_succ, i64_w, i32_w]
    rfl
  refine one_ (i := 12) (N := some 43) #[true, true, true, true, true, true, true, true, true, true, true, true, true, false, false, false, false] rfl rfl (by kernel_rfl) (by decide) (fun K hK => ?_)
  refine value_ (w1 := ?_) (v := ?_) (by rfl) rfl ?_ ?_
  rotate_left 2
  · go_simp
    constructor
    · rfl
    · rfl
  refine hK.out _ _ ⟨pw_cell_below (below_alloc (Below.refl _ _) _) z3, pw_cell_below (below_alloc (Below.refl _ _) _) x1, pw_cell_below (below_alloc (Below.refl _ _) _) x2⟩ (fun hHeld => ?_)
  clear hK K
  refine norm_ (a' := ?_) ?_ ?_
  rotate_left
  · show Act.put _ (some 43) _ = _
    simp only [Act.put, List.setIfInBounds_toArray, List.set_cons_zero, List.set_cons_succ, i64_w, i32_w]
    rfl
  refine one_ (i := 13) (N := some 44) #[true, true, true, true, true, true, true, true, true, true, true, true, true, true, false, false, false] rfl rfl (by kernel_rfl) (by decide) (fun K hK => ?_)
  show (if _ then Oper.wp _ _ _ (w2.drew.alloc (.cells [Value.string k, Value.string u].toArray 82)) _ _ else _)
  refine Kd.R_append_step kE (w0 := w2.drew) 0 (by rfl) (.tmp 35) (.tmp 43) 68 82 (.agg #[.string ⟨#[]⟩, .string ⟨#[]⟩]) 32 rfl Try.underlying68 infoE rfl (by decide) (by decide) (.slice A2 q2 k2) (dropE l k) (⟨k, u⟩ : E) [.string k, .string u] (fun j => Grow S w2 j ∧ j ≠ g) (fun _ => False) rfl rfl ?aP (fun _ hk => hk.elim) ?aF ?aO ?aB ?aS ?aL ?_
  (case aP => exact kE_M.2 rfl)
  (case aB => exact Below.refl _ _)
  (case aF => exact fun j hj => ⟨.inr hj, fun e => by subst e; exact absurd (blk_lt H2.out.blk) (Nat.not_lt.2 hj)⟩)
  (case aO => exact Kd.R_mono H2.out.row (fun j hj => ⟨.inl hj.1, hj.2⟩))
  (case aS => exact Nat.zero_le _)
  (case aL => have := HLn2.out; omega)
  intro v1 w4 ho hb hg0 hat
  have hg : w2.grownBy w4 (Value.slice A2 q2 k2).ownBlock := ⟨hg0.os, hg0.tape, hg0.output, hg0.size, hg0.block⟩
  obtain ⟨A4, k4, e4⟩ := Kd.R_slice ho
  subst e4
  have b1 := blk_grown H2.out.blk hg H2.out.own_ne
  have f3 := blk_frozen b1 3
  have d3 : w4.cell? ⟨g, 3, none⟩ = some (.slice A2 q2 k2) := (blk_cell b1 3).trans rfl
  have hgo := Aside0.mk (H2.out.appended (x := ⟨k, u⟩) ho hg)
  have hq1 : w4.cell? ⟨q, 1, none⟩ = some (.string k) := ((Only.refl S w2).grown hg (fun j hj => .inl (H2.out.row.1 j hj).1)).cell x1 HNS.out
  have hq2 : w4.cell? ⟨q, 2, none⟩ = some (.string u) := ((Only.refl S w2).grown hg (fun j hj => .inl (H2.out.row.1 j hj).1)).cell x2 HNS.out
  refine hK.out _ _ ⟨d3, hq1, hq2⟩ (fun hHeld => ?_)
  clear hK K
  refine norm_ (a' := ?_) ?_ ?_
  rotate_left
  · show Act.put _ (some 44) _ = _
    simp only [Act.put, List.setIfInBounds_toArray, List.set_cons_zero, List.set_cons_succ, i64_w, i32_w]
    rfl
  refine pure_ (i := 14) (N := some 45) (v := ?_) (a' := ?_) #[true, true, true, true, true, true, true, true, true, true, true, true, true, true, true, false, false] rfl rfl (by kernel_rfl) (fun _ _ _ h => h) (Or.inl ⟨by rfl, ?_⟩) ?_ ?_
  rotate_left
  · intro w'
    go_simp
    with_reducible rfl
  rotate_left
  · simp only [Act.put, List.setIfInBounds_toArray, List.set_cons_zero, List.set_cons_succ, i64_w, i32_w]
    rfl
  refine pure_ (i := 15) (N := some 46) (v := ?_) (a' := ?_) #[true, true, true, true, true, true, true, true, true, true, true, true, true, true, true, true, false] rfl rfl (by kernel_rfl) (fun _ _ _ h => h) (Or.inl ⟨by rfl, ?_⟩) ?_ ?_
  rotate_left
  · intro w'
    go_simp
    with_reducible rfl
  rotate_left
  · simp only [Act.put, List.setIfInBounds_toArray, List.set_cons_zero, List.set_cons_succ, i64_w, i32_w]
    rfl
  refine last_ (i := 16) (N := none) #[true, true, true, true, true, true, true, true, true, true, true, true, true, true, true, true, true] rfl rfl (by kernel_rfl) (by decide) (fun K hK => ?_)
  rw [if_pos (by rfl)]
  clear hHeld b1 hb hat ho hg hg0 hq1 hq2 x1 x2 z3
  go_simp
  refine hK.out _ _ ?_
  clear hK K
  refine done_ (by kernel_rfl) ?_
  go_wp2
  go_ret
  have ho := (((Only.refl S w).below HB.out).trans HO2.out).trans hgo.out.2
  have hk : KvW (Grow S w) _ g gd n m _ (dropE l k ++ [⟨k, u⟩]) := hgo.out.1.mono (S1 := Grow S w) (fun j hj => Or.elim hj Or.inl (fun hj => Or.inr (Nat.le_trans (Nat.le_trans HB.out.size HO2.out.size) hj)))
  rw [List.length_append, List.length_singleton] at ho hk
  exact ⟨rfl, _, hk, ho⟩
set_option maxHeartbeats 4000000 in
set_option maxRecDepth 100000 in
theorem done_gone (h : KvW S w g gd n m v l) (hS : ∀ j, S j → j < w.heap.size) (hs : splitS s = some [goneT, k]) (hl : l.length ≤ 1048576) : Calls Try.prog 35 #[.pointer (some ⟨g, 0, none⟩), .string s] w fun e w' => e = .returned (.bool true) ∧ ∃ v', KvW (Grow S w) w' g gd n m v' (dropE l k) ∧ Only S w w' := by
  have H := Aside0.mk h
  have HS := Aside0.mk hS
  have HSp := Aside0.mk (fun W => Split_ok W hs)
  have HLn := Aside0.mk hl
  clear h hS hs hl
  go_enter Try.func35, Try.ntmps35
  go_wp2_with (first
    | (go_at_call 61; refine (HSp.out _).mono ?_; rintro e w1 ⟨A, c, rfl, hcl, hb⟩; obtain ⟨q, rfl, hq, y0⟩ := hcl 0 (by simp); obtain ⟨q1, e1, _, y1⟩ := hcl 1 (by simp); cases e1; have H1 := Aside0.mk (H.out.below hb); have HB := Aside0.mk hb; change w1.cell? ⟨q, 0, none⟩ = some (.string ⟨#[103, 111, 110, 101]⟩) at y0; change w1.cell? ⟨q, 1, none⟩ = some (.string k) at y1; clear hcl hb HSp hq H)
    | (go_at_call 62; refine (drop_Q H1.out k HLn.out).mono ?_; rintro e w2 ⟨rfl, v2, h2, ho2⟩; have H2 := Aside0.mk h2; have HO2 := Aside0.mk ho2; clear h2 ho2 y0 y1 H1))
  go_ret
  exact ⟨rfl, v2, H2.out.mono (fun _ hj => .inl hj), ((Only.refl S w).below HB.out).trans HO2.out⟩
end
def recP (k u : ByteArray) : ByteArray := strOfNums (Co.joinB [putT, k, u])
def recG (k : ByteArray) : ByteArray := strOfNums (Co.joinB [goneT, k])
theorem str_len (l : List Int) : (strOfNums l).size = l.length := by simp [strOfNums, ByteArray.size]
theorem recP_size (k u : ByteArray) : (recP k u).size = 35 + k.size + u.size := by
  unfold recP
  rw [str_len, Co.joinB_length]
  simp only [Co.sizes, List.length_cons, List.length_nil]
  have : putT.size = 3 := rfl
  omega
theorem recG_size (k : ByteArray) : (recG k).size = 28 + k.size := by
  unfold recG
  rw [str_len, Co.joinB_length]
  simp only [Co.sizes, List.length_cons, List.length_nil]
  have : goneT.size = 4 := rfl
  omega
theorem splitS_join {ps : List ByteArray} (h : 8 + 8 * ps.length + Co.sizes ps ≤ 1048576) : splitS (strOfNums (Co.joinB ps)) = some ps := by
  unfold splitS
  rw [str_len, Co.joinB_length, if_neg (by omega), bytes_str (Co.byt_joinB ps)]
  have h1 := Co.splitL_join (ps.map bytesOf) (fun p hp => by
    obtain ⟨q, hq, rfl⟩ := List.mem_map.1 hp
    rw [bytesOf_length]
    have := Co.size_le hq
    omega) (by rw [List.length_map]; omega) []
  rw [List.append_nil] at h1
  unfold Co.joinB
  rw [h1]
  simp only [List.length_nil, if_true, Option.map_some]
  rw [Co.map_str]
theorem splitS_recP {k u : ByteArray} (h : (recP k u).size ≤ 1048576) : splitS (recP k u) = some [putT, k, u] := by
  rw [recP_size] at h
  refine splitS_join ?_
  simp only [Co.sizes, List.length_cons, List.length_nil]
  have : putT.size = 3 := rfl
  omega
theorem splitS_recG {k : ByteArray} (h : (recG k).size ≤ 1048576) : splitS (recG k) = some [goneT, k] := by
  rw [recG_size] at h
  refine splitS_join ?_
  simp only [Co.sizes, List.length_cons, List.length_nil]
  have : goneT.size = 4 := rfl
  omega
theorem doneE_recP (l : List E) {k u : ByteArray} (h : (recP k u).size ≤ 1048576) : doneE l (recP k u) = some (dropE l k ++ [⟨k, u⟩]) := by
  unfold doneE
  rw [splitS_recP h]
  rfl
theorem doneE_recG (l : List E) {k : ByteArray} (h : (recG k).size ≤ 1048576) : doneE l (recG k) = some (dropE l k) := by
  unfold doneE
  rw [splitS_recG h]
  rfl
theorem put_Q (W : World) (k u : ByteArray) (h : k.size + u.size ≤ 274877906944) : Calls Try.prog 37 #[.agg #[.string k, .string u]] W fun e W' => e = .returned (.string (recP k u)) ∧ Below W.heap.size W W' := by
  have hj := Co.join_ev [putT, k, u] (by
    simp only [Co.sizes, List.length_cons, List.length_nil]
    have : putT.size = 3 := rfl
    omega)
  obtain ⟨K, hK⟩ := hj
  refine kvlog_put.calls K k u (recP k u) W ?_
  unfold kvlog_put.f
  have h1 : code_Join.f K [putT, k, u] = some (recP k u) := hK K (Nat.le_refl _)
  show (code_Join.f K [putT, k, u]).bind _ = _
  rw [h1]
  rfl
theorem gone_Q (W : World) (k : ByteArray) (h : k.size ≤ 274877906944) : Calls Try.prog 38 #[.string k] W fun e W' => e = .returned (.string (recG k)) ∧ Below W.heap.size W W' := by
  have hj := Co.join_ev [goneT, k] (by
    simp only [Co.sizes, List.length_cons, List.length_nil]
    have : goneT.size = 4 := rfl
    omega)
  obtain ⟨K, hK⟩ := hj
  refine kvlog_gone.calls K k (recG k) W ?_
  unfold kvlog_gone.f
  have h1 : code_Join.f K [goneT, k] = some (recG k) := hK K (Nat.le_refl _)
  show (code_Join.f K [goneT, k]).bind _ = _
  rw [h1]
  rfl
def getE (l : List E) (s : ByteArray) : Option ByteArray := (l.find? fun e => decide (e.f0 = s)).map (·.f1)
theorem getE_at {l : List E} {s : ByteArray} {i : Nat} (h : atE l s = (i : Int)) : ∃ hi : i < l.length, getE l s = some (l[i]'hi).f1 ∧ (l[i]'hi).f0 = s := by
  unfold atE at h
  cases e : l.findIdx? (fun f => decide (f.f0 = s)) with
  | none => rw [e] at h; cases h
  | some j =>
    rw [e] at h
    have hj : j = i := Int.ofNat.inj h
    subst hj
    obtain ⟨hi, h1, h2⟩ := List.findIdx?_eq_some_iff_getElem.1 e
    refine ⟨hi, ?_, of_decide_eq_true h1⟩
    unfold getE
    have : l.find? (fun e => decide (e.f0 = s)) = some (l[j]'hi) := by
      rw [List.find?_eq_some_iff_getElem]
      exact ⟨h1, j, hi, rfl, fun k hk => by have := h2 k hk; simpa using this⟩
    rw [this]
    rfl
theorem getE_no {l : List E} {s : ByteArray} (h : ¬ 0 ≤ atE l s) : getE l s = none := by
  unfold atE at h
  cases e : l.findIdx? (fun f => decide (f.f0 = s)) with
  | some j => rw [e] at h; exact absurd (Int.natCast_nonneg j) h
  | none =>
    unfold getE
    rw [List.find?_eq_none.2 (fun x hx => List.findIdx?_eq_none_iff.1 e x hx |> fun h => by simpa using h)]
    rfl
section
variable {S : Nat → Prop} {w W : World} {g gd : Nat} {n : ByteArray} {m : Int} {v : Value} {l : List E}
set_option maxHeartbeats 2000000 in
set_option maxRecDepth 100000 in
theorem Get_Q (h : KvW S w g gd n m v l) (s : ByteArray) (hl : l.length ≤ 1048576) : Calls Try.prog 12 #[.pointer (some ⟨g, 0, none⟩), .string s] w fun e w' => e = .returned (.tuple #[.string ((getE l s).getD ⟨#[]⟩), .bool (getE l s).isSome]) ∧ Below w.heap.size w w' := by
  have HA := Aside0.mk (At_Q h s hl)
  by_cases c : 0 ≤ atE l s
  · obtain ⟨i, hi, hil⟩ := atE_lt c
    obtain ⟨hil2, hg, _⟩ := getE_at hi
    rw [hi] at HA
    rw [hg]
    obtain ⟨A, k2, ev, hall⟩ := h.entry
    obtain ⟨ad, eA, y0, y1⟩ := hall i hil2
    subst eA
    subst ev
    obtain ⟨x, hx⟩ : ∃ x, x = (l[i]'hil2).f1 := ⟨_, rfl⟩
    rw [← hx] at y1 ⊢
    obtain ⟨q, hq⟩ : ∃ q, q = l.length := ⟨_, rfl⟩
    have z3 : w.cell? ⟨g, 3, none⟩ = some (.slice (some ad) l.length k2) := h.cell 3
    rw [← hq] at hil z3
    have cb : decide ((i : Int) < 0) = false := decide_eq_false (by omega)
    clear h hall hl hq hi hg hx c
    go_enter Try.func12, Try.ntmps12
    go_wp2_with (first | (go_at_call 36; refine HA.out.mono ?_; rintro e w1 ⟨rfl, hb⟩; have HB1 := Aside0.mk hb; have x3 := pw_cell_below hb z3; have x1 := pw_cell_below hb y1; clear hb HA z3 y0 y1))
    go_ret2
    exact ⟨rfl, HB1.out⟩
  · rw [getE_no c]
    obtain ⟨a, ha⟩ : ∃ a, a = atE l s := ⟨_, rfl⟩
    rw [← ha] at HA
    have cb : decide (a < 0) = true := decide_eq_true (by omega)
    clear h c ha hl
    go_enter Try.func12, Try.ntmps12
    go_wp2_with (first | (go_at_call 36; refine HA.out.mono ?_; rintro e w1 ⟨rfl, hb⟩; have HB1 := Aside0.mk hb; clear hb HA))
    go_ret2
    exact ⟨rfl, HB1.out⟩
set_option maxHeartbeats 1000000 in
theorem draft_Q (h : KvW S w g gd n m v l) (hn : n.size ≤ 28) : Calls Try.prog 32 #[.pointer (some ⟨g, 0, none⟩)] w fun e w' => e = .returned (.string (n ++ ⟨#[46, 110, 101, 119]⟩)) ∧ Below w.heap.size w w' := by
  have z1 : w.cell? ⟨g, 1, none⟩ = some (.string n) := h.cell 1
  obtain ⟨q, hq⟩ : ∃ q, n.size = q := ⟨_, rfl⟩
  have hnb : ¬ 9223372036854775807 < q + 4 := by omega
  clear h hn
  go_enter Try.func32, Try.ntmps32
  go_wp2
  go_ret
  exact ⟨rfl, Below.refl _ _⟩
end
theorem infoS : (Try.prog.info? 9).map (fun i => (i.zero, i.size, i.bytes)) = some (some (.string ⟨#[]⟩), 1, 16) := by kernel_rfl
def keysE (l : List E) : List ByteArray := l.map (·.f0)
theorem keys_step {l : List E} {k : Nat} (hk : k < l.length) : keysE (l.take (k + 1)) = keysE (l.take k) ++ [(l[k]'hk).f0] := by
  unfold keysE
  rw [List.take_succ_eq_append_getElem hk, List.map_append]
  rfl
theorem keys_len (l : List E) (k : Nat) (hl : l.length ≤ 1048576) : ((keysE (l.take k)).length + 1) * 16 ≤ 140737488355328 := by
  unfold keysE
  rw [List.length_map, List.length_take]
  omega
section
variable {S : Nat → Prop} {w W : World} {g gd : Nat} {n : ByteArray} {m : Int} {v : Value} {l : List E}
set_option maxHeartbeats 4000000 in
set_option maxRecDepth 100000 in
theorem Keys_Q (h : KvW S w g gd n m v l) (hl : l.length ≤ 1048576) : Calls Try.prog 14 #[.pointer (some ⟨g, 0, none⟩)] w fun e w' => ∃ v1, e = .returned v1 ∧ Kd.R Kd.string 9 w' w.heap.size (fun _ => True) v1 (keysE l) ∧ Below w.heap.size w w' := by
  obtain ⟨A, c, ev, hall⟩ := h.entry
  have z3 : w.cell? ⟨g, 3, none⟩ = some v := h.cell 3
  subst ev
  have HAll := Aside0.mk hall
  have HL := Aside0.mk hl
  obtain ⟨q, hq⟩ : ∃ q, q = l.length := ⟨_, rfl⟩
  have HN := Aside0.mk hq
  rw [← hq] at z3
  have HZ := Aside0.mk z3
  clear h hall hl hq z3
  go_enter Try.func14, Try.ntmps14
  go_wp2
  go_loopw [3, 4] (fun o i wr => ∃ k : Nat, k ≤ q ∧ i = .int .i64 (k : Int) ∧ Aside0 (Kd.R Kd.string 9 wr w.heap.size (fun _ => True) o (keysE (l.take k))) ∧ Aside0 (Below w.heap.size w wr)) (fun _ i _ => q - (intOf i).toNat)
  case atStart => exact ⟨0, Nat.zero_le _, rfl, ⟨Kd.R_nil _ _ _ _ _⟩, ⟨Below.refl _ _⟩⟩
  case round =>
    obtain ⟨k, hk, rfl, HR, HB⟩ := hrel
    have z3 := pw_cell_below HB.out HZ.out
    by_cases hlt : k < q
    · have kb : decide ((k : Int) < (q : Int)) = true := decide_eq_true (Int.ofNat_lt.2 hlt)
      obtain ⟨ad, rfl, y0, y1⟩ := HAll.out k (by rw [← HN.out]; exact hlt)
      have x0 := pw_cell_below HB.out y0
      have HE := Aside0.mk (keys_step (l := l) (k := k) (by rw [← HN.out]; exact hlt))
      clear y0 y1
      obtain ⟨s, hs⟩ : ∃ s, s = (l[k]'(by rw [← HN.out]; exact hlt)).f0 := ⟨_, rfl⟩
      rw [← hs] at x0 HE
      clear hs
      obtain ⟨A3, k3, e3⟩ := Kd.R_slice HR.out
      go_wp2_with (first
        | ((with_reducible refine gate_builtin (b := .append) (xs := #[.tmp 18, .tmp 27]) rfl ?_); (try (refine gate_guard (by rfl) ?_; dsimp only)); at_builtin; refine Kd.R_append Kd.string (w0 := w) w.heap.size rfl (.tmp 18) (.tmp 27) 22 9 (.string ⟨#[]⟩) 16 rfl Try.underlying22 infoS rfl (by decide) (by decide) u3 (keysE (l.take k)) s [.string s] (fun _ => True) (fun _ => False) rfl rfl rfl (fun _ h => h.elim) (fun _ _ => trivial) HR.out HB.out HB.out.size (keys_len l k HL.out) ?_; intro v1 w5 hr5 hb5 hg5 hat5; have HR5 := Aside0.mk hr5; have HB5 := Aside0.mk hb5; clear hr5 hb5 hg5 hat5))
      go_roundw
      case rel => exact ⟨k + 1, hlt, vE hlt (by rw [HN.out]; exact HL.out), ⟨by rw [HE.out]; exact HR5.out⟩, ⟨HB5.out⟩⟩
      case measure => exact mE hlt (by rw [HN.out]; exact HL.out)
    · have HE := Aside0.mk (show k = l.length from (Nat.le_antisymm hk (Nat.le_of_not_lt hlt)).trans HN.out)
      have kb : decide ((k : Int) < (q : Int)) = false := decide_eq_false (fun h => hlt (Int.ofNat_lt.1 h))
      go_wp2
      go_ret
      refine ⟨_, rfl, ?_, HB.out⟩
      have h1 := HR.out
      rw [HE.out, List.take_length] at h1
      exact h1
end
def Good (r : ByteArray) : Prop := (∃ k u, r = recP k u ∧ (recP k u).size ≤ 65536) ∨ ∃ k, r = recG k ∧ (recG k).size ≤ 65536
theorem Good.size {r : ByteArray} (h : Good r) : r.size ≤ 65536 := by
  rcases h with ⟨k, u, rfl, h⟩ | ⟨k, rfl, h⟩ <;> exact h
def stepE (l : List E) (r : ByteArray) : List E := (doneE l r).getD l
theorem Good.done {r : ByteArray} (h : Good r) (l : List E) : doneE l r = some (stepE l r) := by
  unfold stepE
  rcases h with ⟨k, u, rfl, h⟩ | ⟨k, rfl, h⟩
  · rw [doneE_recP l (by omega)]; rfl
  · rw [doneE_recG l (by omega)]; rfl
theorem Good.len {r : ByteArray} (h : Good r) (l : List E) : (stepE l r).length ≤ l.length + 1 := by
  unfold stepE
  rcases h with ⟨k, u, rfl, h⟩ | ⟨k, rfl, h⟩
  · rw [doneE_recP l (by omega)]
    have := dropE_le l k
    simp only [Option.getD_some, List.length_append, List.length_singleton]
    omega
  · rw [doneE_recG l (by omega)]
    have := dropE_le l k
    simp only [Option.getD_some]
    omega
def stepAll (l : List E) (rs : List ByteArray) : List E := rs.foldl stepE l
theorem stepAll_take {l : List E} {rs : List ByteArray} {k : Nat} (hk : k < rs.length) : stepAll l (rs.take (k + 1)) = stepE (stepAll l (rs.take k)) (rs[k]'hk) := by
  unfold stepAll
  rw [List.take_succ_eq_append_getElem hk, List.foldl_append]
  rfl
theorem stepAll_len {l : List E} {rs : List ByteArray} (h : ∀ r ∈ rs, Good r) : (stepAll l rs).length ≤ l.length + rs.length := by
  induction rs generalizing l with
  | nil => exact Nat.le_refl _
  | cons r rs ih =>
    have h1 := ih (l := stepE l r) (fun x hx => h x (List.mem_cons_of_mem _ hx))
    have h2 := (h r (List.mem_cons_self ..)).len l
    show (stepAll (stepE l r) rs).length ≤ _
    rw [List.length_cons]
    omega
structure KSt (S : Nat → Prop) (B : Nat) (W : World) (g gd : Nat) (n : ByteArray) (m : Int) (l : List E) : Prop where
  at_ : ∃ v, KvW S W g gd n m v l
  lo : ∀ k, S k → B ≤ k
  hi : ∀ k, S k → k < W.heap.size
abbrev U (S1 S2 : Nat → Prop) : Nat → Prop := fun k => S1 k ∨ S2 k
section
variable {S S' S1 S2 S1' S2' : Nat → Prop} {B : Nat} {w W W' W1 : World} {g gd : Nat} {n : ByteArray} {m : Int} {v : Value} {l l' : List E} {d d' : DS}
theorem KSt.next (h : KSt S B W g gd n m l) (hB : B ≤ W.heap.size) (hD : KvW (Grow S W) W' g gd n m v l') (hO : Only S W W') : ∃ S', KSt S' B W' g gd n m l' ∧ Step S W S' W' :=
  ⟨fun k => Grow S W k ∧ k < W'.heap.size, ⟨⟨v, hD.trim⟩, fun k hk => hk.1.elim (h.lo k) (fun h => Nat.le_trans hB h), fun k hk => hk.2⟩, hO, fun k hk => hk.1⟩
theorem KSt.move (h : KSt S B W g gd n m l) (hs : W.heap.size ≤ W'.heap.size) (hm : ∀ k, S k → W'.heap[k]? = W.heap[k]?) : KSt S B W' g gd n m l := by
  obtain ⟨v, hd⟩ := h.at_
  exact ⟨⟨v, hd.move (fun k hk _ => hm k hk)⟩, h.lo, fun k hk => Nat.lt_of_lt_of_le (h.hi k hk) hs⟩
theorem KSt.below (h : KSt S B W g gd n m l) (hb : Below W.heap.size W W') : KSt S B W' g gd n m l := h.move hb.size (fun k hk => hb.block k (h.hi k hk))
theorem KSt.other (h : KSt S B W g gd n m l) (ho : Only S2 W W') (hd : ∀ k, S k → ¬ S2 k) : KSt S B W' g gd n m l := h.move ho.size (fun k hk => ho.block k (h.hi k hk) (hd k hk))
structure KD (S1 S2 : Nat → Prop) (B : Nat) (W : World) (gd g : Nat) (d : DS) (n : ByteArray) (m : Int) (l : List E) : Prop where
  dev : Dev S1 B W gd d
  st : KSt S2 B W g gd n m l
  dis : ∀ k, S1 k → ¬ S2 k
  size : B ≤ W.heap.size
theorem Step.disj (st : Step S W S' W') (hd : ∀ k, S1 k → ¬ S k) (hi : ∀ k, S1 k → k < W.heap.size) : ∀ k, S1 k → ¬ S' k := fun k hk h => by
  rcases st.sub k h with h3 | h3
  · exact hd k hk h3
  · have := hi k hk; omega
theorem Step.same (hb : Below W.heap.size W W') : Step S W S W' := ⟨(Only.refl S W).below hb, fun _ h => .inl h⟩
theorem Step.behind (st : Step S W S' W') (hb : Below W'.heap.size W' W1) : Step S W S' W1 := ⟨st.only.below hb, st.sub⟩
theorem Step.after (st : Step S W S' W') (hb : Below w.heap.size w W) : Step S w S' W' := ⟨((Only.refl S w).below hb).trans st.only, fun j hj => (st.sub j hj).elim .inl (fun h => .inr (Nat.le_trans hb.size h))⟩
theorem Step.trans (st : Step S W S' W') (st2 : Step S' W' S1 W1) : Step S W S1 W1 := by
  refine ⟨st.only.thenN st2.only (fun j hj => st.sub j hj), fun j hj => ?_⟩
  rcases st2.sub j hj with h | h
  · exact st.sub j h
  · exact .inr (Nat.le_trans st.only.size h)
theorem Step.left (st : Step S1 W S1' W') : Step (U S1 S2) W (U S1' S2) W' := ⟨st.only.mono (fun _ h => .inl h), fun k h => h.elim (fun h => (st.sub k h).elim (fun h => .inl (.inl h)) .inr) (fun h => .inl (.inr h))⟩
theorem Step.right (st : Step S2 W S2' W') : Step (U S1 S2) W (U S1 S2') W' := ⟨st.only.mono (fun _ h => .inr h), fun k h => h.elim (fun h => .inl (.inl h)) (fun h => (st.sub k h).elim (fun h => .inl (.inr h)) .inr)⟩
theorem KD.below (h : KD S1 S2 B W gd g d n m l) (hb : Below W.heap.size W W') : KD S1 S2 B W' gd g d n m l := ⟨h.dev.below hb, h.st.below hb, h.dis, Nat.le_trans h.size hb.size⟩
theorem KD.devStep (h : KD S1 S2 B W gd g d n m l) (hd : Dev S1' B W' gd d') (st : Step S1 W S1' W') : KD S1' S2 B W' gd g d' n m l ∧ Step (U S1 S2) W (U S1' S2) W' :=
  ⟨⟨hd, h.st.other st.only (fun k hk h2 => h.dis k h2 hk), fun k h1 h2 => (Step.disj st (fun k hk h2 => h.dis k h2 hk) h.st.hi) k h2 h1, Nat.le_trans h.size st.only.size⟩, Step.left st⟩
theorem KD.stStep (h : KD S1 S2 B W gd g d n m l) (hd : KSt S2' B W' g gd n m l') (st : Step S2 W S2' W') : KD S1 S2' B W' gd g d n m l' ∧ Step (U S1 S2) W (U S1 S2') W' :=
  ⟨⟨h.dev.other st.only h.dis, hd, Step.disj st h.dis h.dev.hi, Nat.le_trans h.size st.only.size⟩, Step.right st⟩
abbrev TRow (S : Nat → Prop) (W : World) (A : Option Addr) (n : Nat) (xs : List ByteArray) : Prop := Kd.F Kd.string W (fun k => ¬ S k) A n xs
theorem TRow.step {A : Option Addr} {n : Nat} {xs : List ByteArray} (h : TRow S W A n xs) (hs : Step S W S' W') : TRow S' W' A n xs := by
  have h1 := F_only (Kd.F_bound h) hs.only (fun k hk => hk.1)
  exact Kd.F_mono h1 (fun k hk hS => (hs.sub k hS).elim hk.1 (fun h => by have := hk.2; omega))
theorem TRow.below {A : Option Addr} {n : Nat} {xs : List ByteArray} (h : TRow S W A n xs) (hb : Below W.heap.size W W') : TRow S W' A n xs := Kd.F_below h hb
theorem TRow.of {A : Option Addr} {n cc : Nat} {xs : List ByteArray} {e base : Nat} {ok : Nat → Prop} (h : Kd.string.R e W base ok (.slice A n cc) xs) (hb : ∀ k, S k → k < base) : TRow S W A n xs := by
  have hb2 := Kd.R_base2 h
  have h2 : Kd.string.R e W base (fun k => ¬ S k) (.slice A n cc) xs := Kd.R_of_own (Kd.own_of_R h) (fun k hk hS => by
    rcases hb2 with h0 | ⟨k2, h3, h4⟩
    · rw [hk] at h0; cases h0
    · rw [hk] at h3
      cases h3
      have := hb k hS
      omega)
  exact Kd.R_F h2
theorem TRow.C {A : Option Addr} {n : Nat} {xs : List ByteArray} (h : TRow S W A n xs) : Kd.C Kd.string W A xs.length xs := by
  have hl := Kd.F_len h
  have h1 := Kd.F_now h
  rw [← hl] at h1
  exact h1
theorem done_K (h : KSt S B W g gd n m l) (hB : B ≤ W.heap.size) {r : ByteArray} (hr : Good r) (hl : l.length ≤ 1048576) : Calls Try.prog 35 #[.pointer (some ⟨g, 0, none⟩), .string r] W fun e W' => e = .returned (.bool true) ∧ ∃ S', KSt S' B W' g gd n m (stepE l r) ∧ Step S W S' W' := by
  obtain ⟨v, hv⟩ := h.at_
  have hd := hr.done l
  rcases hr with ⟨k, u, rfl, hs⟩ | ⟨k, rfl, hs⟩
  · rw [doneE_recP l (by omega)] at hd
    injection hd with hd
    rw [← hd]
    refine (done_put hv h.hi (splitS_recP (by omega)) hl).mono ?_
    rintro e W' ⟨rfl, v', h1, h2⟩
    exact ⟨rfl, h.next hB h1 h2⟩
  · rw [doneE_recG l (by omega)] at hd
    injection hd with hd
    rw [← hd]
    refine (done_gone hv h.hi (splitS_recG (by omega)) hl).mono ?_
    rintro e W' ⟨rfl, v', h1, h2⟩
    exact ⟨rfl, h.next hB h1 h2⟩
end
theorem framePut_Q {S : Nat → Prop} (W : World) {A : Option Addr} {q c : Nat} {rs : List ByteArray} (h : TRow S W A q rs) (hc : q ≤ c) (hS : ∀ k, S k → k < W.heap.size) (hl : rs.length ≤ 1048576) (hb : (Fr.putB rs).length ≤ 1099511627776) :
    Calls Try.prog 48 #[.slice none 0 0, .slice A q c] W fun e W' => ∃ A' c', e = .returned (.slice A' (Fr.putB rs).length c') ∧ Row S W' A' (Fr.putB rs).length (Fr.putB rs) ∧ Below W.heap.size W W' := by
  have hq := Kd.F_len h
  have hC := h.C
  subst hq
  obtain ⟨K, hK⟩ := Fr.put_ev [] rs (by omega) (by simp only [List.length_nil]; omega)
  rw [List.nil_append] at hK
  refine (frame_Put.calls K (fun _ => False) (.slice none 0 0) [] A c rs (Fr.putB rs) W W (Below.refl _ _) (Kd.R_nil _ _ _ _ _) (fun W_ hk => Kd.Heap.C Kd.heap_string (fun k hk2 => hk.2 k hk2 (fun h => h)) hC) hc (hK K (Nat.le_refl _))).mono ?_
  rintro e W' ⟨v, rfl, hr, hb, _⟩
  obtain ⟨A', c', rfl⟩ := Kd.R_slice hr
  exact ⟨A', c', rfl, Row.of hr hS, hb⟩
section
variable {S1 S2 : Nat → Prop} {B : Nat} {W : World} {g gd : Nat} {n : ByteArray} {m : Int} {l : List E} {d d' : DS} {k er : Int} {A : Option Addr} {q c : Nat} {rs : List ByteArray}
set_option maxHeartbeats 4000000 in
set_option maxRecDepth 100000 in
theorem write_e (h : KD S1 S2 B W gd g d n m l) (u : d.Up k) (hk : k < 4611686018427387904) (hr : TRow (U S1 S2) W A q rs) (hc : q ≤ c) (hgood : ∀ r ∈ rs, Good r) (hlen : (Fr.putB rs).length ≤ 4294967296) (hl : l.length + rs.length ≤ 1048576) (ha : d.append n (Fr.putB rs) = (er, d')) (he : er ≠ 0) :
    Calls Try.prog 39 #[.pointer (some ⟨g, 0, none⟩), .slice A q c] W fun e W' => e = .returned (.int .i64 er) ∧ ∃ S1' S2', KD S1' S2' B W' gd g d' n m l ∧ Step (U S1 S2) W (U S1' S2') W' := by
  have eb : (er != 0) = true := bne_iff_ne.mpr he
  clear he
  obtain ⟨v, hv⟩ := h.st.at_
  have z0 : W.drew.cell? ⟨g, 0, none⟩ = some (.pointer (some ⟨gd, 0, none⟩)) := hv.cell 0
  have z1 : W.drew.cell? ⟨g, 1, none⟩ = some (.string n) := hv.cell 1
  have hb0 : Below W.heap.size W W.drew := below_drew1 (Below.refl _ _)
  have HPu := Aside0.mk (framePut_Q W.drew (Kd.F_mono (hr.below hb0) (fun k hk h1 => hk (.inl h1)) : TRow S1 W.drew A q rs) hc (fun k hk => h.dev.hi k hk) (by omega) (by omega))
  have H := Aside0.mk (h.below hb0)
  have HT := Aside0.mk (hr.below hb0)
  have HU := Aside0.mk u
  have HK := Aside0.mk hk
  have HPl := Aside0.mk hlen
  have HPb := Aside0.mk (show ∀ x ∈ Fr.putB rs, 0 ≤ x ∧ x ≤ 255 from fun x hx => by have := Fr.byt_putB rs x hx; omega)
  have HAp := Aside0.mk ha
  have HGd := Aside0.mk hgood
  have HL := Aside0.mk hl
  have HQ := Aside0.mk (Kd.F_len hr)
  clear h hr hc u hk hlen ha hgood hl hv
  go_enter Try.func39, Try.ntmps39
  go_wp2
  refine start_ (n := 12) (S := fun w' => w'.cell? ⟨g, 0, none⟩ = some (.pointer (some ⟨gd, 0, none⟩)) ∧ w'.cell? ⟨g, 1, none⟩ = some (.string n)) (ds := [10, 11]) #[false, false, false, false, false, false, false, false, false, false, false, false] (by kernel_rfl) rfl rfl ⟨z0, z1⟩ (fun hHeld => ?_)
  refine pure_ (i := 0) (N := some 8) (v := ?_) (a' := ?_) #[true, false, false, false, false, false, false, false, false, false, false, false] rfl rfl (by kernel_rfl) (fun _ _ _ h => h) (Or.inl ⟨by rfl, ?_⟩) ?_ ?_
  rotate_left
  · intro w'
    go_simp
    with_reducible rfl
  rotate_left
  · simp only [Act.put, List.setIfInBounds_toArray, List.set_cons_zero, List.set_cons_succ, i64_w, i32_w]
    rfl
  refine pure_ (i := 1) (N := some 9) (v := ?_) (a' := ?_) #[true, true, false, false, false, false, false, false, false, false, false, false] rfl rfl (by kernel_rfl) (fun _ _ _ h => h) (Or.inl ⟨by rfl, ?_⟩) ?_ ?_
  rotate_left
  · intro w'
    go_simp
    with_reducible rfl
  rotate_left
  · simp only [Act.put, List.setIfInBounds_toArray, List.set_cons_zero, List.set_cons_succ, i64_w, i32_w]
    rfl
  refine pure_ (i := 2) (N := some 10) (v := ?_) (a' := ?_) #[true, true, true, false, false, false, false, false, false, false, false, false] rfl rfl (by kernel_rfl) (fun _ _ _ h => h) (Or.inl ⟨by rfl, ?_⟩) ?_ ?_
  rotate_left
  · intro w'
    go_simp
    with_reducible rfl
  rotate_left
  · simp only [Act.put, List.setIfInBounds_toArray, List.set_cons_zero, List.set_cons_succ, i64_w, i32_w]
    rfl
  refine take_ (i := 3) (N := some 11) (v := ?_) (a' := ?_) #[true, true, true, true, false, false, false, false, false, false, false, false] rfl rfl (by kernel_rfl) (fun _ _ _ h => h) (Or.inl ⟨by rfl, ?_⟩) hHeld ?_ ?_
  rotate_left
  · intro w' s0
    obtain ⟨s0, s1⟩ := s0
    go_simp
    with_reducible rfl
  rotate_left
  · simp only [Act.put, List.setIfInBounds_toArray, List.set_cons_zero, List.set_cons_succ, i64_w, i32_w]
    rfl
  refine pure_ (i := 4) (N := some 12) (v := ?_) (a' := ?_) #[true, true, true, true, true, false, false, false, false, false, false, false] rfl rfl (by kernel_rfl) (fun _ _ _ h => h) (Or.inl ⟨by rfl, ?_⟩) ?_ ?_
  rotate_left
  · intro w'
    go_simp
    with_reducible rfl
  rotate_left
  · simp only [Act.put, List.setIfInBounds_toArray, List.set_cons_zero, List.set_cons_succ, i64_w, i32_w]
    rfl
  refine pure_ (i := 5) (N := some 13) (v := ?_) (a' := ?_) #[true, true, true, true, true, true, false, false, false, false, false, false] rfl rfl (by kernel_rfl) (fun _ _ _ h => h) (Or.inl ⟨by rfl, ?_⟩) ?_ ?_
  rotate_left
  · intro w'
    go_simp
    with_reducible rfl
  rotate_left
  · simp only [Act.put, List.setIfInBounds_toArray, List.set_cons_zero, List.set_cons_succ, i64_w, i32_w]
    rfl
  refine pure_ (i := 6) (N := some 14) (v := ?_) (a' := ?_) #[true, true, true, true, true, true, true, false, false, false, false, false] rfl rfl (by kernel_rfl) (fun _ _ _ h => h) (Or.inl ⟨by rfl, ?_⟩) ?_ ?_
  rotate_left
  · intro w'
    go_simp
    with_reducible rfl
  rotate_left
  · simp only [Act.put, List.setIfInBounds_toArray, List.set_cons_zero, List.set_cons_succ, i64_w, i32_w]
    rfl
  refine take_ (i := 7) (N := some 15) (v := ?_) (a' := ?_) #[true, true, true, true, true, true, true, true, false, false, false, false] rfl rfl (by kernel_rfl) (fun _ _ _ h => h) (Or.inl ⟨by rfl, ?_⟩) hHeld ?_ ?_
  rotate_left
  · intro w' s0
    obtain ⟨s0, s1⟩ := s0
    go_simp
    with_reducible rfl
  rotate_left
  · simp only [Act.put, List.setIfInBounds_toArray, List.set_cons_zero, List.set_cons_succ, i64_w, i32_w]
    rfl
  refine pure_ (i := 8) (N := some 16) (v := ?_) (a' := ?_) #[true, true, true, true, true, true, true, true, true, false, false, false] rfl rfl (by kernel_rfl) (fun _ _ _ h => h) (Or.inl ⟨by rfl, ?_⟩) ?_ ?_
  rotate_left
  · intro w'
    go_simp
    with_reducible rfl
  rotate_left
  · simp only [Act.put, List.setIfInBounds_toArray, List.set_cons_zero, List.set_cons_succ, i64_w, i32_w]
    rfl
  refine one_ (i := 9) (N := some 17) #[true, true, true, true, true, true, true, true, true, true, false, false] rfl rfl (by kernel_rfl) (by decide) (fun K hK => ?_)
  refine goes_ Try.func48 (by kernel_rfl) rfl #[.slice none 0 0, .slice A q c] (by rfl) rfl rfl (by (try simp only [List.map_toArray, List.map_cons, List.map_nil]); first | done | rfl) ?_
  refine (HPu.out).mono ?_
  rintro e w1 ⟨A1, c1, rfl, hr1, hb1⟩
  refine ⟨_, rfl, ?_⟩
  have H1 := Aside0.mk (H.out.below hb1)
  have HR1 := Aside0.mk hr1
  have HB1 := Aside0.mk hb1
  refine hK.out _ _ ⟨pw_cell_below hb1 z0, pw_cell_below hb1 z1⟩ (fun hHeld => ?_)
  clear hK K hr1 hb1 HPu
  refine norm_ (a' := ?_) ?_ ?_
  rotate_left
  · show Act.put _ (some 17) _ = _
    simp only [Act.put, List.setIfInBounds_toArray, List.set_cons_zero, List.set_cons_succ, i64_w, i32_w]
    rfl
  refine last_ (i := 10) (N := some 18) #[true, true, true, true, true, true, true, true, true, true, true, false] rfl rfl (by kernel_rfl) (by decide) (fun K hK => ?_)
  refine goes_ Try.func49 (by kernel_rfl) rfl #[.pointer (some ⟨gd, 0, none⟩), .string n, .slice A1 (Fr.putB rs).length c1] (by rfl) rfl rfl (by (try simp only [List.map_toArray, List.map_cons, List.map_nil]); first | done | rfl) ?_
  refine (Append_D H1.out.dev H1.out.size HU.out HK.out HR1.out HPl.out (fun x hx => HPb.out x hx) HAp.out).mono ?_
  rintro e w2 ⟨S1', rfl, hd2, hs2⟩
  refine ⟨_, rfl, ?_⟩
  have H2 := Aside0.mk (H1.out.devStep hd2 (Step.mk hs2.only hs2.sub))
  have HS2 := Aside0.mk (Step.after (H1.out.devStep hd2 hs2).2 HB1.out)
  clear hd2 hs2 hHeld z0 z1 H1
  refine hK.out _ _ ?_
  clear hK K
  refine norm_ (a' := ?_) ?_ ?_
  rotate_left
  · show Act.put _ (some 18) _ = _
    simp only [Act.put, List.setIfInBounds_toArray, List.set_cons_zero, List.set_cons_succ, i64_w, i32_w]
    rfl
  refine pure_ (i := 11) (N := some 5) (v := ?_) (a' := ?_) #[true, true, true, true, true, true, true, true, true, true, true, true] rfl rfl (by kernel_rfl) (fun _ _ _ h => h) (Or.inl ⟨by rfl, ?_⟩) ?_ ?_
  rotate_left
  · intro w'
    go_simp
    with_reducible rfl
  rotate_left
  · simp only [Act.put, List.setIfInBounds_toArray, List.set_cons_zero, List.set_cons_succ, i64_w, i32_w]
    rfl
  refine done_ (by kernel_rfl) ?_
  go_wp2
  go_ret
  exact ⟨rfl, S1', S2, H2.out.1, Step.after HS2.out (below_drew1 (Below.refl _ _))⟩
set_option maxHeartbeats 4000000 in
set_option maxRecDepth 100000 in
theorem write_ok (h : KD S1 S2 B W gd g d n m l) (u : d.Up k) (hk : k < 4611686018427387904) (hr : TRow (U S1 S2) W A q rs) (hc : q ≤ c) (hgood : ∀ r ∈ rs, Good r) (hlen : (Fr.putB rs).length ≤ 4294967296) (hl : l.length + rs.length ≤ 1048576) (ha : d.append n (Fr.putB rs) = (0, d')) :
    Calls Try.prog 39 #[.pointer (some ⟨g, 0, none⟩), .slice A q c] W fun e W' => e = .returned (.int .i64 0) ∧ ∃ S1' S2', KD S1' S2' B W' gd g d' n m (stepAll l rs) ∧ Step (U S1 S2) W (U S1' S2') W' := by
  obtain ⟨v, hv⟩ := h.st.at_
  have z0 : W.drew.cell? ⟨g, 0, none⟩ = some (.pointer (some ⟨gd, 0, none⟩)) := hv.cell 0
  have z1 : W.drew.cell? ⟨g, 1, none⟩ = some (.string n) := hv.cell 1
  have hb0 : Below W.heap.size W W.drew := below_drew1 (Below.refl _ _)
  have HPu := Aside0.mk (framePut_Q W.drew (Kd.F_mono (hr.below hb0) (fun k hk h1 => hk (.inl h1)) : TRow S1 W.drew A q rs) hc (fun k hk => h.dev.hi k hk) (by omega) (by omega))
  have H := Aside0.mk (h.below hb0)
  have HT := Aside0.mk (hr.below hb0)
  have HU := Aside0.mk u
  have HK := Aside0.mk hk
  have HPl := Aside0.mk hlen
  have HPb := Aside0.mk (show ∀ x ∈ Fr.putB rs, 0 ≤ x ∧ x ≤ 255 from fun x hx => by have := Fr.byt_putB rs x hx; omega)
  have HAp := Aside0.mk ha
  have HGd := Aside0.mk hgood
  have HL := Aside0.mk hl
  have HQ := Aside0.mk (Kd.F_len hr)
  clear h hr hc u hk hlen ha hgood hl hv
  go_enter Try.func39, Try.ntmps39
  go_wp2
  refine start_ (n := 12) (S := fun w' => w'.cell? ⟨g, 0, none⟩ = some (.pointer (some ⟨gd, 0, none⟩)) ∧ w'.cell? ⟨g, 1, none⟩ = some (.string n)) (ds := [10, 11]) #[false, false, false, false, false, false, false, false, false, false, false, false] (by kernel_rfl) rfl rfl ⟨z0, z1⟩ (fun hHeld => ?_)
  refine pure_ (i := 0) (N := some 8) (v := ?_) (a' := ?_) #[true, false, false, false, false, false, false, false, false, false, false, false] rfl rfl (by kernel_rfl) (fun _ _ _ h => h) (Or.inl ⟨by rfl, ?_⟩) ?_ ?_
  rotate_left
  · intro w'
    go_simp
    with_reducible rfl
  rotate_left
  · simp only [Act.put, List.setIfInBounds_toArray, List.set_cons_zero, List.set_cons_succ, i64_w, i32_w]
    rfl
  refine pure_ (i := 1) (N := some 9) (v := ?_) (a' := ?_) #[true, true, false, false, false, false, false, false, false, false, false, false] rfl rfl (by kernel_rfl) (fun _ _ _ h => h) (Or.inl ⟨by rfl, ?_⟩) ?_ ?_
  rotate_left
  · intro w'
    go_simp
    with_reducible rfl
  rotate_left
  · simp only [Act.put, List.setIfInBounds_toArray, List.set_cons_zero, List.set_cons_succ, i64_w, i32_w]
    rfl
  refine pure_ (i := 2) (N := some 10) (v := ?_) (a' := ?_) #[true, true, true, false, false, false, false, false, false, false, false, false] rfl rfl (by kernel_rfl) (fun _ _ _ h => h) (Or.inl ⟨by rfl, ?_⟩) ?_ ?_
  rotate_left
  · intro w'
    go_simp
    with_reducible rfl
  rotate_left
  · simp only [Act.put, List.setIfInBounds_toArray, List.set_cons_zero, List.set_cons_succ, i64_w, i32_w]
    rfl
  refine take_ (i := 3) (N := some 11) (v := ?_) (a' := ?_) #[true, true, true, true, false, false, false, false, false, false, false, false] rfl rfl (by kernel_rfl) (fun _ _ _ h => h) (Or.inl ⟨by rfl, ?_⟩) hHeld ?_ ?_
  rotate_left
  · intro w' s0
    obtain ⟨s0, s1⟩ := s0
    go_simp
    with_reducible rfl
  rotate_left
  · simp only [Act.put, List.setIfInBounds_toArray, List.set_cons_zero, List.set_cons_succ, i64_w, i32_w]
    rfl
  refine pure_ (i := 4) (N := some 12) (v := ?_) (a' := ?_) #[true, true, true, true, true, false, false, false, false, false, false, false] rfl rfl (by kernel_rfl) (fun _ _ _ h => h) (Or.inl ⟨by rfl, ?_⟩) ?_ ?_
  rotate_left
  · intro w'
    go_simp
    with_reducible rfl
  rotate_left
  · simp only [Act.put, List.setIfInBounds_toArray, List.set_cons_zero, List.set_cons_succ, i64_w, i32_w]
    rfl
  refine pure_ (i := 5) (N := some 13) (v := ?_) (a' := ?_) #[true, true, true, true, true, true, false, false, false, false, false, false] rfl rfl (by kernel_rfl) (fun _ _ _ h => h) (Or.inl ⟨by rfl, ?_⟩) ?_ ?_
  rotate_left
  · intro w'
    go_simp
    with_reducible rfl
  rotate_left
  · simp only [Act.put, List.setIfInBounds_toArray, List.set_cons_zero, List.set_cons_succ, i64_w, i32_w]
    rfl
  refine pure_ (i := 6) (N := some 14) (v := ?_) (a' := ?_) #[true, true, true, true, true, true, true, false, false, false, false, false] rfl rfl (by kernel_rfl) (fun _ _ _ h => h) (Or.inl ⟨by rfl, ?_⟩) ?_ ?_
  rotate_left
  · intro w'
    go_simp
    with_reducible rfl
  rotate_left
  · simp only [Act.put, List.setIfInBounds_toArray, List.set_cons_zero, List.set_cons_succ, i64_w, i32_w]
    rfl
  refine take_ (i := 7) (N := some 15) (v := ?_) (a' := ?_) #[true, true, true, true, true, true, true, true, false, false, false, false] rfl rfl (by kernel_rfl) (fun _ _ _ h => h) (Or.inl ⟨by rfl, ?_⟩) hHeld ?_ ?_
  rotate_left
  · intro w' s0
    obtain ⟨s0, s1⟩ := s0
    go_simp
    with_reducible rfl
  rotate_left
  · simp only [Act.put, List.setIfInBounds_toArray, List.set_cons_zero, List.set_cons_succ, i64_w, i32_w]
    rfl
  refine pure_ (i := 8) (N := some 16) (v := ?_) (a' := ?_) #[true, true, true, true, true, true, true, true, true, false, false, false] rfl rfl (by kernel_rfl) (fun _ _ _ h => h) (Or.inl ⟨by rfl, ?_⟩) ?_ ?_
  rotate_left
  · intro w'
    go_simp
    with_reducible rfl
  rotate_left
  · simp only [Act.put, List.setIfInBounds_toArray, List.set_cons_zero, List.set_cons_succ, i64_w, i32_w]
    rfl
  refine one_ (i := 9) (N := some 17) #[true, true, true, true, true, true, true, true, true, true, false, false] rfl rfl (by kernel_rfl) (by decide) (fun K hK => ?_)
  refine goes_ Try.func48 (by kernel_rfl) rfl #[.slice none 0 0, .slice A q c] (by rfl) rfl rfl (by (try simp only [List.map_toArray, List.map_cons, List.map_nil]); first | done | rfl) ?_
  refine (HPu.out).mono ?_
  rintro e w1 ⟨A1, c1, rfl, hr1, hb1⟩
  refine ⟨_, rfl, ?_⟩
  have H1 := Aside0.mk (H.out.below hb1)
  have HR1 := Aside0.mk hr1
  have HB1 := Aside0.mk hb1
  refine hK.out _ _ ⟨pw_cell_below hb1 z0, pw_cell_below hb1 z1⟩ (fun hHeld => ?_)
  clear hK K hr1 hb1 HPu
  refine norm_ (a' := ?_) ?_ ?_
  rotate_left
  · show Act.put _ (some 17) _ = _
    simp only [Act.put, List.setIfInBounds_toArray, List.set_cons_zero, List.set_cons_succ, i64_w, i32_w]
    rfl
  refine last_ (i := 10) (N := some 18) #[true, true, true, true, true, true, true, true, true, true, true, false] rfl rfl (by kernel_rfl) (by decide) (fun K hK => ?_)
  refine goes_ Try.func49 (by kernel_rfl) rfl #[.pointer (some ⟨gd, 0, none⟩), .string n, .slice A1 (Fr.putB rs).length c1] (by rfl) rfl rfl (by (try simp only [List.map_toArray, List.map_cons, List.map_nil]); first | done | rfl) ?_
  refine (Append_D H1.out.dev H1.out.size HU.out HK.out HR1.out HPl.out (fun x hx => HPb.out x hx) HAp.out).mono ?_
  rintro e w2 ⟨S1', rfl, hd2, hs2⟩
  refine ⟨_, rfl, ?_⟩
  have H2 := Aside0.mk (H1.out.devStep hd2 (Step.mk hs2.only hs2.sub))
  have HS2 := Aside0.mk (Step.after (H1.out.devStep hd2 hs2).2 HB1.out)
  clear hd2 hs2 hHeld z0 z1 H1
  refine hK.out _ _ ?_
  clear hK K
  refine norm_ (a' := ?_) ?_ ?_
  rotate_left
  · show Act.put _ (some 18) _ = _
    simp only [Act.put, List.setIfInBounds_toArray, List.set_cons_zero, List.set_cons_succ, i64_w, i32_w]
    rfl
  refine pure_ (i := 11) (N := some 5) (v := ?_) (a' := ?_) #[true, true, true, true, true, true, true, true, true, true, true, true] rfl rfl (by kernel_rfl) (fun _ _ _ h => h) (Or.inl ⟨by rfl, ?_⟩) ?_ ?_
  rotate_left
  · intro w'
    go_simp
    with_reducible rfl
  rotate_left
  · simp only [Act.put, List.setIfInBounds_toArray, List.set_cons_zero, List.set_cons_succ, i64_w, i32_w]
    rfl
  refine done_ (by kernel_rfl) ?_
  go_wp2
  have HT2 := Aside0.mk (TRow.step (TRow.below HT.out (Below.refl _ _)) HS2.out)
  go_loopw [24] (fun i wr => ∃ (j : Nat) (S2' : Nat → Prop), j ≤ q ∧ i = .int .i64 (j : Int) ∧ Aside0 (KD S1' S2' B wr gd g d' n m (stepAll l (rs.take j))) ∧ Aside0 (Step (U S1 S2) W.drew (U S1' S2') wr) ∧ Aside0 (TRow (U S1' S2') wr A q rs)) (fun i _ => q - (intOf i).toNat)
  case atStart => exact ⟨0, S2, Nat.zero_le _, rfl, ⟨H2.out.1⟩, HS2, HT2⟩
  case round =>
    obtain ⟨j, S2', hj, rfl, HD, HSt, HTr⟩ := hrel
    clear H2 HS2 HT2
    by_cases hlt : j < q
    · have kb : decide ((j : Int) < (q : Int)) = true := decide_eq_true (Int.ofNat_lt.2 hlt)
      have hjr : j < rs.length := by rw [HQ.out]; exact hlt
      obtain ⟨ad, rfl, y0⟩ := Kd.at_string HTr.out.C (j : Int) (by omega) (by omega)
      rw [Int.toNat_natCast] at y0
      obtain ⟨r, hr⟩ : ∃ r, r = rdOf ByteArray.empty rs (j : Int) := ⟨_, rfl⟩
      rw [← hr] at y0
      have er : r = rs[j]'hjr := by
        rw [hr]
        unfold rdOf
        rw [Int.toNat_natCast, List.getD_eq_getElem?_getD, List.getElem?_eq_getElem hjr]
        rfl
      have HGr := Aside0.mk (show Good r from by rw [er]; exact HGd.out _ (List.getElem_mem hjr))
      have HSp := Aside0.mk (show stepAll l (rs.take (j + 1)) = stepE (stepAll l (rs.take j)) r from by rw [er]; exact stepAll_take hjr)
      have HLl := Aside0.mk (show (stepAll l (rs.take j)).length ≤ 1048576 from by
        have h1 := stepAll_len (l := l) (rs := rs.take j) (fun x hx => HGd.out x (List.mem_of_mem_take hx))
        rw [List.length_take] at h1
        have := HL.out
        omega)
      clear hr er hjr
      go_wp2_with (first
        | (go_at_call 35; refine (done_K HD.out.st HD.out.size HGr.out HLl.out).mono ?_; rintro e w3 ⟨rfl, S3, h3, hs3⟩; have H3 := Aside0.mk (HD.out.stStep h3 hs3); have HS3 := Aside0.mk (Step.trans HSt.out H3.out.2); have HT3 := Aside0.mk (TRow.step HTr.out H3.out.2); clear h3 hs3 HD HSt HTr))
      go_roundw
      case rel => exact ⟨j + 1, S3, hlt, vE hlt (by have := HL.out; have := HQ.out; omega), ⟨by rw [HSp.out]; exact H3.out.1⟩, HS3, HT3⟩
      case measure => exact mE hlt (by have := HL.out; have := HQ.out; omega)
    · have ej : j = rs.length := by have := HQ.out; omega
      have kb : decide ((j : Int) < (q : Int)) = false := decide_eq_false (fun h => hlt (Int.ofNat_lt.1 h))
      go_wp2
      go_ret
      have h9 := HD.out
      rw [ej, List.take_length] at h9
      exact ⟨rfl, S1', S2', h9, Step.after HSt.out (below_drew1 (Below.refl _ _))⟩
end
def gones (l : List E) (j : Nat) : List ByteArray := (keysE (l.take j)).map recG
theorem gones_step {l : List E} {k : Nat} (hk : k < l.length) : gones l (k + 1) = gones l k ++ [recG (l[k]'hk).f0] := by
  unfold gones
  rw [keys_step hk, List.map_append]
  rfl
theorem gones_length (l : List E) (j : Nat) : (gones l j).length = min j l.length := by
  unfold gones keysE
  rw [List.length_map, List.length_map, List.length_take]
theorem gones_len (l : List E) (k : Nat) (hl : l.length ≤ 1048576) : ((gones l k).length + 1) * 16 ≤ 140737488355328 := by
  rw [gones_length]
  omega
def over (l : List E) (m : Int) : Nat := l.length + 1 - m.toNat
def putRecs (l : List E) (m : Int) (k u : ByteArray) : List ByteArray := (if (getE l k).isSome then [] else gones l (over l m)) ++ [recP k u]
def Short (l : List E) : Prop := ∀ e ∈ l, e.f0.size ≤ 65501
section
variable {S1 S2 : Nat → Prop} {B : Nat} {W : World} {g gd : Nat} {n : ByteArray} {m : Int} {l : List E} {d d' : DS} {k er : Int} {key val : ByteArray}
theorem m2E {k n : Nat} (h : k < n) (hn : n ≤ 1048576) : 1048576 - (intOf (.int .i64 (wrap64 ((k : Int) + 1)))).toNat < 1048576 - (intOf (.int .i64 (k : Int))).toNat := by
  rw [vE h hn]
  simp only [intOf]
  omega
theorem R_strs8 {W : World} {base n c : Nat} {A : Option Addr} {xs : List ByteArray} (h : Kd.R Kd.string 9 W base (fun _ => True) (.slice A n c) xs) : n ≤ c := by
  obtain ⟨inner, ho⟩ := Kd.R_own h
  rcases ho.2 with ⟨e1, hn⟩ | ⟨q, cap, cur, e1, hbg, hg, hnc, _⟩
  · injection e1 with _ e2 e3
    omega
  · injection e1 with _ e2 e3
    rw [e2, e3]; exact hnc
theorem box_pair {W W6 : World} {gb : Nat} {u0 u1 : Value} (h : W6.heap[gb]? = some (.cells #[u0, u1] 82 (0, 0))) (hg : W.heap.size ≤ gb) (hb : Below W.heap.size W W6) (v0 v1 : Value) :
    ((W6.setCell ⟨gb, 0, none⟩ v0).setCell ⟨gb, 1, none⟩ v1).heap[gb]? = some (.cells #[v0, v1] 82 (0, 0)) ∧ Below W.heap.size W ((W6.setCell ⟨gb, 0, none⟩ v0).setCell ⟨gb, 1, none⟩ v1) := by
  refine ⟨?_, below_set (below_set hb hg) hg⟩
  rw [blk_set (blk_set h 0 v0) 1 v1]
  simp only [List.setIfInBounds_toArray, List.set_cons_zero, List.set_cons_succ]
set_option maxHeartbeats 4000000 in
set_option maxRecDepth 100000 in
theorem Put_long (W : World) (hs : key.size + val.size ≤ 274877906944) (hz : 65536 < (recP key val).size) : Calls Try.prog 13 #[.pointer (some ⟨g, 0, none⟩), .string key, .string val] W fun e W' => e = .returned (.int .i64 3) ∧ Below W.heap.size W W' := by
  have hu := Try.underlying82
  have HSz := Aside0.mk hs
  have HLong := Aside0.mk hz
  clear hs hz
  go_enter Try.func13, Try.ntmps13
  go_wp2_with (first
    | ((with_reducible refine gate_dst (N := 7) rfl ?_); refine box_event ?hg (N := 7) ?hd (cs := #[.string (⟨#[]⟩ : ByteArray), .string (⟨#[]⟩ : ByteArray)]) (t := 82) ?hr ?_; (case hd => rfl); (case hg => rfl); (case hr => first | (go_simp; done) | (go_simp; rfl)); intro gb hg wq hbox hb; have BX := Aside0.mk (box_pair (W := W) hbox (Nat.le_of_eq hg.symm) hb (.string key) (.string val)); have qa : wq.cell? ⟨gb, 0, none⟩ = some (.string (⟨#[]⟩ : ByteArray)) := (blk_cell hbox 0).trans rfl; have qb : wq.cell? ⟨gb, 1, none⟩ = some (.string (⟨#[]⟩ : ByteArray)) := (blk_cell hbox 1).trans rfl; have ra := blk_frozen hbox 0; have rb := blk_frozen hbox 1; clear hbox hb hg)
    | (go_at_call 37; refine (put_Q _ key val HSz.out).mono ?_; rintro e w1 ⟨rfl, hb⟩; have HB1 := Aside0.mk (BX.out.2.trans (hb.mono BX.out.2.size)); have bx1 := (hb.block gb (blk_lt BX.out.1)).trans BX.out.1; obtain ⟨rp, hrp⟩ : ∃ rp, rp = recP key val := ⟨_, rfl⟩; have HRp := Aside0.mk hrp; rw [← hrp]; have hz : decide ((65536 : Int) < (rp.size : Int)) = true := decide_eq_true (by rw [HRp.out]; exact Int.ofNat_lt.2 HLong.out); clear hb hrp BX))
  go_ret
  exact ⟨rfl, HB1.out⟩
set_option maxHeartbeats 4000000 in
set_option maxRecDepth 100000 in
theorem Put_same (h : KD S1 S2 B W gd g d n m l) (hok : (recP key val).size ≤ 65536) (hl : l.length + 1 ≤ 1048576) (hg : getE l key = some val) : Calls Try.prog 13 #[.pointer (some ⟨g, 0, none⟩), .string key, .string val] W fun e W' => e = .returned (.int .i64 0) ∧ Below W.heap.size W W' := by
  have hu := Try.underlying82
  have HSz := Aside0.mk (show key.size + val.size ≤ 274877906944 from by have := recP_size key val; omega)
  have HOk := Aside0.mk hok
  have HG1 := Aside0.mk (show ∀ w1, Below W.heap.size W w1 → Calls Try.prog 12 #[.pointer (some ⟨g, 0, none⟩), .string key] w1 fun e w' => e = .returned (.tuple #[.string ((getE l key).getD ⟨#[]⟩), .bool (getE l key).isSome]) ∧ Below w1.heap.size w1 w' from fun w1 hb => by
    obtain ⟨v, hv⟩ := (h.st.below hb).at_
    exact Get_Q hv key (by omega))
  rw [hg] at HG1
  have eb : (val.toList == val.toList) = true := beq_self_eq_true _
  clear h hok hl hg
  go_enter Try.func13, Try.ntmps13
  go_wp2_with (first
    | ((with_reducible refine gate_dst (N := 7) rfl ?_); refine box_event ?hg (N := 7) ?hd (cs := #[.string (⟨#[]⟩ : ByteArray), .string (⟨#[]⟩ : ByteArray)]) (t := 82) ?hr ?_; (case hd => rfl); (case hg => rfl); (case hr => first | (go_simp; done) | (go_simp; rfl)); intro gb hg wq hbox hb; have BX := Aside0.mk (box_pair (W := W) hbox (Nat.le_of_eq hg.symm) hb (.string key) (.string val)); have qa : wq.cell? ⟨gb, 0, none⟩ = some (.string (⟨#[]⟩ : ByteArray)) := (blk_cell hbox 0).trans rfl; have qb : wq.cell? ⟨gb, 1, none⟩ = some (.string (⟨#[]⟩ : ByteArray)) := (blk_cell hbox 1).trans rfl; have ra := blk_frozen hbox 0; have rb := blk_frozen hbox 1; clear hbox hb hg)
    | (go_at_call 37; refine (put_Q _ key val HSz.out).mono ?_; rintro e w1 ⟨rfl, hb⟩; have HB1 := Aside0.mk (BX.out.2.trans (hb.mono BX.out.2.size)); have bx1 := (hb.block gb (blk_lt BX.out.1)).trans BX.out.1; obtain ⟨rp, hrp⟩ : ∃ rp, rp = recP key val := ⟨_, rfl⟩; have HRp := Aside0.mk hrp; rw [← hrp]; have hz : decide ((65536 : Int) < (rp.size : Int)) = false := decide_eq_false (by rw [HRp.out]; exact fun h => Nat.not_lt.2 HOk.out (Int.ofNat_lt.1 h)); clear hb hrp BX)
    | (go_at_call 12; refine (HG1.out w1 HB1.out).mono ?_; rintro e w2 ⟨rfl, hb⟩; have HB2 := Aside0.mk (HB1.out.trans (hb.mono HB1.out.size)); have bx2 := (hb.block gb (blk_lt bx1)).trans bx1; clear hb HG1 HB1 bx1))
  go_ret
  exact ⟨rfl, HB2.out⟩
set_option maxHeartbeats 4000000 in
set_option maxRecDepth 100000 in
theorem Put_new_ok (h : KD S1 S2 B W gd g d n m l) (u : d.Up k) (hk : k < 4611686018427387904) (hok : (recP key val).size ≤ 65536) (hl : l.length + l.length + 2 ≤ 1048576) (hm : 1 ≤ m ∧ m ≤ 4096) (hsh : Short l) (hg : getE l key = none) (hlen : (Fr.putB (putRecs l m key val)).length ≤ 4294967296) (ha : d.append n (Fr.putB (putRecs l m key val)) = (0, d')) : Calls Try.prog 13 #[.pointer (some ⟨g, 0, none⟩), .string key, .string val] W fun e W' => e = .returned (.int .i64 0) ∧ ∃ S1' S2', KD S1' S2' B W' gd g d' n m (stepAll l (putRecs l m key val)) ∧ Step (U S1 S2) W (U S1' S2') W' := by
  have hu := Try.underlying82
  have HSz := Aside0.mk (show key.size + val.size ≤ 274877906944 from by have := recP_size key val; omega)
  have HOk := Aside0.mk hok
  have HG1 := Aside0.mk (show ∀ w1, Below W.heap.size W w1 → Calls Try.prog 12 #[.pointer (some ⟨g, 0, none⟩), .string key] w1 fun e w' => e = .returned (.tuple #[.string ((getE l key).getD ⟨#[]⟩), .bool (getE l key).isSome]) ∧ Below w1.heap.size w1 w' from fun w1 hb => by
    obtain ⟨v, hv⟩ := (h.st.below hb).at_
    exact Get_Q hv key (by omega))
  rw [hg] at HG1
  have er0 : putRecs l m key val = gones l (over l m) ++ [recP key val] := by
    unfold putRecs
    rw [hg]
    rfl
  obtain ⟨ov, hov⟩ : ∃ ov, ov = over l m := ⟨_, rfl⟩
  have HOv := Aside0.mk (show ov ≤ l.length ∧ ∀ j : Nat, j < ov ↔ (j : Int) + m ≤ (l.length : Int) from by
    rw [hov]
    unfold over
    exact ⟨by omega, fun j => by omega⟩)
  rw [← hov] at er0
  clear hov
  have HRs := Aside0.mk er0
  rw [er0] at ha hlen
  obtain ⟨v, hv⟩ := h.st.at_
  have z2 : W.cell? ⟨g, 2, none⟩ = some (.int .i64 m) := hv.cell 2
  have z3 : W.cell? ⟨g, 3, none⟩ = some v := hv.cell 3
  obtain ⟨A0, c0, ev, hall⟩ := hv.entry
  subst ev
  have HAll := Aside0.mk hall
  have HSh := Aside0.mk hsh
  have HAp := Aside0.mk ha
  have HPl := Aside0.mk hlen
  have HL := Aside0.mk hl
  have HM := Aside0.mk hm
  have HU := Aside0.mk u
  have HK := Aside0.mk hk
  have H := Aside0.mk h
  obtain ⟨ln, hln⟩ : ∃ ln, ln = l.length := ⟨_, rfl⟩
  have HLn := Aside0.mk hln
  rw [← hln] at z3
  clear h hok hl hg hall hsh ha hlen hm u hk hv er0 hln
  go_enter Try.func13, Try.ntmps13
  go_wp2_with (first
    | ((with_reducible refine gate_dst (N := 7) rfl ?_); refine box_event ?hg (N := 7) ?hd (cs := #[.string (⟨#[]⟩ : ByteArray), .string (⟨#[]⟩ : ByteArray)]) (t := 82) ?hr ?_; (case hd => rfl); (case hg => rfl); (case hr => first | (go_simp; done) | (go_simp; rfl)); intro gb hg wq hbox hb; have BX := Aside0.mk (box_pair (W := W) hbox (Nat.le_of_eq hg.symm) hb (.string key) (.string val)); have qa : wq.cell? ⟨gb, 0, none⟩ = some (.string (⟨#[]⟩ : ByteArray)) := (blk_cell hbox 0).trans rfl; have qb : wq.cell? ⟨gb, 1, none⟩ = some (.string (⟨#[]⟩ : ByteArray)) := (blk_cell hbox 1).trans rfl; have ra := blk_frozen hbox 0; have rb := blk_frozen hbox 1; clear hbox hb hg)
    | (go_at_call 37; refine (put_Q _ key val HSz.out).mono ?_; rintro e w1 ⟨rfl, hb⟩; have HB1 := Aside0.mk (BX.out.2.trans (hb.mono BX.out.2.size)); have bx1 := (hb.block gb (blk_lt BX.out.1)).trans BX.out.1; obtain ⟨rp, hrp⟩ : ∃ rp, rp = recP key val := ⟨_, rfl⟩; have HRp := Aside0.mk hrp; rw [← hrp]; have hz : decide ((65536 : Int) < (rp.size : Int)) = false := decide_eq_false (by rw [HRp.out]; exact fun h => Nat.not_lt.2 HOk.out (Int.ofNat_lt.1 h)); clear hb hrp BX)
    | (go_at_call 12; refine (HG1.out w1 HB1.out).mono ?_; rintro e w2 ⟨rfl, hb⟩; have HB2 := Aside0.mk (HB1.out.trans (hb.mono HB1.out.size)); have bx2 := (hb.block gb (blk_lt bx1)).trans bx1; clear hb HG1 HB1 bx1))
  go_loopw [10, 11] (fun o i wr => ∃ (j : Nat), j ≤ ov ∧ i = .int .i64 (j : Int) ∧ Aside0 (Kd.R Kd.string 9 wr W.heap.size (fun _ => True) o (gones l j)) ∧ Aside0 (Below W.heap.size W wr) ∧ wr.heap[gb]? = some (.cells #[.string key, .string val] 82 (0, 0))) (fun _ i _ => 1048576 - (intOf i).toNat)
  case atStart => exact ⟨0, Nat.zero_le _, rfl, ⟨Kd.R_nil _ _ _ _ _⟩, HB2, bx2⟩
  case round =>
    obtain ⟨j, hj, rfl, HR, HB, bx3⟩ := hrel
    have x2 := pw_cell_below HB.out z2
    have x3 := pw_cell_below HB.out z3
    clear bx2 HB2
    have hw1 : wrap64 ((j : Int) + m) = (j : Int) + m := by have := HL.out; have := HOv.out.1; have := HM.out; exact w64 (by omega) (by omega)
    by_cases hlt : j < ov
    · have kb : decide ((j : Int) + m ≤ (ln : Int)) = true := decide_eq_true (by rw [HLn.out]; exact (HOv.out.2 j).1 hlt)
      have hjl : j < l.length := Nat.lt_of_lt_of_le hlt HOv.out.1
      have hjn : j < ln := by rw [HLn.out]; exact hjl
      have kc : decide ((j : Int) < (ln : Int)) = true := decide_eq_true (Int.ofNat_lt.2 hjn)
      obtain ⟨ad, rfl, y0, y1⟩ := HAll.out j hjl
      have a0 := pw_cell_below HB.out y0
      have HE := Aside0.mk (gones_step hjl)
      have HKs := Aside0.mk (show (l[j]'hjl).f0.size ≤ 274877906944 from Nat.le_trans (HSh.out _ (List.getElem_mem hjl)) (by decide))
      clear y0 y1
      obtain ⟨s, hs⟩ : ∃ s, s = (l[j]'hjl).f0 := ⟨_, rfl⟩
      rw [← hs] at a0 HE HKs
      clear hs
      go_wp2_with (first
        | go_region
        | (go_at_call 38; refine (gone_Q _ s HKs.out).mono ?_; rintro e w5 ⟨rfl, hb⟩; replace hb := (below_drew1 (Below.refl wr.heap.size wr)).trans hb; have HB5 := Aside0.mk (HB.out.trans (hb.mono HB.out.size)); have HR5 := Aside0.mk (Kd.R_below HR.out hb); have bx5 := (hb.block gb (blk_lt bx3)).trans bx3; clear hb)
        | ((with_reducible refine gate_builtin (b := .append) (xs := #[.tmp 51, .tmp 61]) rfl ?_); (try (refine gate_guard (by rfl) ?_; dsimp only)); at_builtin; refine Kd.R_append Kd.string (w0 := W) W.heap.size rfl (.tmp 51) (.tmp 61) 22 9 (.string ⟨#[]⟩) 16 rfl Try.underlying22 infoS rfl (by decide) (by decide) u10 (gones l j) (recG s) [.string (recG s)] (fun _ => True) (fun _ => False) rfl rfl rfl (fun _ h => h.elim) (fun _ _ => trivial) HR5.out HB5.out HB5.out.size (gones_len l j (by have := HL.out; omega)) ?_; intro v1 w6 hr5 hb5 hg5 hat5; have bx6 := blk_grown bx5 hg5 (Kd.R_ne HR5.out bx5 (by decide)); have HR6 := Aside0.mk hr5; have HB6 := Aside0.mk hb5; clear hr5 hb5 hg5 hat5))
      go_roundw
      case rel => exact ⟨j + 1, hlt, vE hlt (by have := HL.out; have := HOv.out.1; omega), ⟨by rw [HE.out]; exact HR6.out⟩, HB6, bx6⟩
      case measure => exact m2E hlt (by have := HL.out; have := HOv.out.1; omega)
    · have kb : decide ((j : Int) + m ≤ (ln : Int)) = false := decide_eq_false (fun h => hlt (by rw [HLn.out] at h; exact (HOv.out.2 j).2 h))
      have ej : j = ov := Nat.le_antisymm hj (Nat.le_of_not_lt hlt)
      subst ej
      have pa : wr.cell? ⟨gb, 0, none⟩ = some (.string key) := (blk_cell bx3 0).trans rfl
      have pb : wr.cell? ⟨gb, 1, none⟩ = some (.string val) := (blk_cell bx3 1).trans rfl
      clear z2 z3
      go_wp2_with (first
        | go_region
        | (go_at_call 37; refine (put_Q _ key val HSz.out).mono ?_; rintro e w7 ⟨rfl, hb⟩; replace hb := (below_drew1 (Below.refl wr.heap.size wr)).trans hb; have HB7 := Aside0.mk (HB.out.trans (hb.mono HB.out.size)); have HR7 := Aside0.mk (Kd.R_below HR.out hb); clear hb HB)
        | ((with_reducible refine gate_builtin (b := .append) (xs := #[.tmp 64, .tmp 67]) rfl ?_); (try (refine gate_guard (by rfl) ?_; dsimp only)); at_builtin; refine Kd.R_append Kd.string (w0 := W) W.heap.size rfl (.tmp 64) (.tmp 67) 22 9 (.string ⟨#[]⟩) 16 rfl Try.underlying22 infoS rfl (by decide) (by decide) u10 (gones l j) (recP key val) [.string (recP key val)] (fun _ => True) (fun _ => False) rfl rfl rfl (fun _ h => h.elim) (fun _ _ => trivial) HR7.out HB7.out HB7.out.size (by rw [gones_length]; have := HL.out; omega) ?_; intro v1 w8 hr5 hb5 hg5 hat5; have HR8 := Aside0.mk hr5; have HB8 := Aside0.mk hb5; clear hr5 hb5 hg5 hat5)
        | (go_at_call 39; have hr8 := HR8.out; obtain ⟨A8, c8, e8⟩ := Kd.R_slice hr8; rw [e8] at hr8; have hC8 := R_strs8 hr8; subst e8; refine (write_ok (H.out.below HB8.out) HU.out HK.out (TRow.of hr8 (fun j hj => hj.elim (H.out.dev.hi j) (H.out.st.hi j))) hC8 (fun r hr => by
        rcases List.mem_append.1 hr with hr | hr
        · obtain ⟨x, hx, rfl⟩ := List.mem_map.1 hr
          obtain ⟨y, hy, rfl⟩ := List.mem_map.1 hx
          exact .inr ⟨_, rfl, by rw [recG_size]; have := HSh.out y (List.mem_of_mem_take hy); omega⟩
        · rcases List.mem_singleton.1 hr with rfl
          exact .inl ⟨_, _, rfl, HOk.out⟩) HPl.out (by rw [List.length_append, gones_length, List.length_singleton]; have := HL.out; omega) HAp.out).mono ?_; rintro e w9 ⟨rfl, S1', S2', h9, s9⟩; have H9 := Aside0.mk h9; have HS9 := Aside0.mk (Step.after s9 HB8.out); clear h9 s9))
      go_ret
      exact ⟨rfl, S1', S2', by rw [HRs.out]; exact H9.out, HS9.out⟩
set_option maxHeartbeats 4000000 in
set_option maxRecDepth 100000 in
theorem Put_new_e (h : KD S1 S2 B W gd g d n m l) (u : d.Up k) (hk : k < 4611686018427387904) (hok : (recP key val).size ≤ 65536) (hl : l.length + l.length + 2 ≤ 1048576) (hm : 1 ≤ m ∧ m ≤ 4096) (hsh : Short l) (hg : getE l key = none) (hlen : (Fr.putB (putRecs l m key val)).length ≤ 4294967296) (ha : d.append n (Fr.putB (putRecs l m key val)) = (er, d')) (he : er ≠ 0) : Calls Try.prog 13 #[.pointer (some ⟨g, 0, none⟩), .string key, .string val] W fun e W' => e = .returned (.int .i64 er) ∧ ∃ S1' S2', KD S1' S2' B W' gd g d' n m l ∧ Step (U S1 S2) W (U S1' S2') W' := by
  have hu := Try.underlying82
  have HSz := Aside0.mk (show key.size + val.size ≤ 274877906944 from by have := recP_size key val; omega)
  have HOk := Aside0.mk hok
  have HG1 := Aside0.mk (show ∀ w1, Below W.heap.size W w1 → Calls Try.prog 12 #[.pointer (some ⟨g, 0, none⟩), .string key] w1 fun e w' => e = .returned (.tuple #[.string ((getE l key).getD ⟨#[]⟩), .bool (getE l key).isSome]) ∧ Below w1.heap.size w1 w' from fun w1 hb => by
    obtain ⟨v, hv⟩ := (h.st.below hb).at_
    exact Get_Q hv key (by omega))
  rw [hg] at HG1
  have er0 : putRecs l m key val = gones l (over l m) ++ [recP key val] := by
    unfold putRecs
    rw [hg]
    rfl
  obtain ⟨ov, hov⟩ : ∃ ov, ov = over l m := ⟨_, rfl⟩
  have HOv := Aside0.mk (show ov ≤ l.length ∧ ∀ j : Nat, j < ov ↔ (j : Int) + m ≤ (l.length : Int) from by
    rw [hov]
    unfold over
    exact ⟨by omega, fun j => by omega⟩)
  rw [← hov] at er0
  clear hov
  have HRs := Aside0.mk er0
  rw [er0] at ha hlen
  obtain ⟨v, hv⟩ := h.st.at_
  have z2 : W.cell? ⟨g, 2, none⟩ = some (.int .i64 m) := hv.cell 2
  have z3 : W.cell? ⟨g, 3, none⟩ = some v := hv.cell 3
  obtain ⟨A0, c0, ev, hall⟩ := hv.entry
  subst ev
  have HAll := Aside0.mk hall
  have HSh := Aside0.mk hsh
  have HAp := Aside0.mk ha
  have HPl := Aside0.mk hlen
  have HL := Aside0.mk hl
  have HM := Aside0.mk hm
  have HU := Aside0.mk u
  have HK := Aside0.mk hk
  have H := Aside0.mk h
  obtain ⟨ln, hln⟩ : ∃ ln, ln = l.length := ⟨_, rfl⟩
  have HLn := Aside0.mk hln
  rw [← hln] at z3
  have HEr := Aside0.mk he
  clear he
  clear h hok hl hg hall hsh ha hlen hm u hk hv er0 hln
  go_enter Try.func13, Try.ntmps13
  go_wp2_with (first
    | ((with_reducible refine gate_dst (N := 7) rfl ?_); refine box_event ?hg (N := 7) ?hd (cs := #[.string (⟨#[]⟩ : ByteArray), .string (⟨#[]⟩ : ByteArray)]) (t := 82) ?hr ?_; (case hd => rfl); (case hg => rfl); (case hr => first | (go_simp; done) | (go_simp; rfl)); intro gb hg wq hbox hb; have BX := Aside0.mk (box_pair (W := W) hbox (Nat.le_of_eq hg.symm) hb (.string key) (.string val)); have qa : wq.cell? ⟨gb, 0, none⟩ = some (.string (⟨#[]⟩ : ByteArray)) := (blk_cell hbox 0).trans rfl; have qb : wq.cell? ⟨gb, 1, none⟩ = some (.string (⟨#[]⟩ : ByteArray)) := (blk_cell hbox 1).trans rfl; have ra := blk_frozen hbox 0; have rb := blk_frozen hbox 1; clear hbox hb hg)
    | (go_at_call 37; refine (put_Q _ key val HSz.out).mono ?_; rintro e w1 ⟨rfl, hb⟩; have HB1 := Aside0.mk (BX.out.2.trans (hb.mono BX.out.2.size)); have bx1 := (hb.block gb (blk_lt BX.out.1)).trans BX.out.1; obtain ⟨rp, hrp⟩ : ∃ rp, rp = recP key val := ⟨_, rfl⟩; have HRp := Aside0.mk hrp; rw [← hrp]; have hz : decide ((65536 : Int) < (rp.size : Int)) = false := decide_eq_false (by rw [HRp.out]; exact fun h => Nat.not_lt.2 HOk.out (Int.ofNat_lt.1 h)); clear hb hrp BX)
    | (go_at_call 12; refine (HG1.out w1 HB1.out).mono ?_; rintro e w2 ⟨rfl, hb⟩; have HB2 := Aside0.mk (HB1.out.trans (hb.mono HB1.out.size)); have bx2 := (hb.block gb (blk_lt bx1)).trans bx1; clear hb HG1 HB1 bx1))
  go_loopw [10, 11] (fun o i wr => ∃ (j : Nat), j ≤ ov ∧ i = .int .i64 (j : Int) ∧ Aside0 (Kd.R Kd.string 9 wr W.heap.size (fun _ => True) o (gones l j)) ∧ Aside0 (Below W.heap.size W wr) ∧ wr.heap[gb]? = some (.cells #[.string key, .string val] 82 (0, 0))) (fun _ i _ => 1048576 - (intOf i).toNat)
  case atStart => exact ⟨0, Nat.zero_le _, rfl, ⟨Kd.R_nil _ _ _ _ _⟩, HB2, bx2⟩
  case round =>
    obtain ⟨j, hj, rfl, HR, HB, bx3⟩ := hrel
    have x2 := pw_cell_below HB.out z2
    have x3 := pw_cell_below HB.out z3
    clear bx2 HB2
    have hw1 : wrap64 ((j : Int) + m) = (j : Int) + m := by have := HL.out; have := HOv.out.1; have := HM.out; exact w64 (by omega) (by omega)
    by_cases hlt : j < ov
    · have kb : decide ((j : Int) + m ≤ (ln : Int)) = true := decide_eq_true (by rw [HLn.out]; exact (HOv.out.2 j).1 hlt)
      have hjl : j < l.length := Nat.lt_of_lt_of_le hlt HOv.out.1
      have hjn : j < ln := by rw [HLn.out]; exact hjl
      have kc : decide ((j : Int) < (ln : Int)) = true := decide_eq_true (Int.ofNat_lt.2 hjn)
      obtain ⟨ad, rfl, y0, y1⟩ := HAll.out j hjl
      have a0 := pw_cell_below HB.out y0
      have HE := Aside0.mk (gones_step hjl)
      have HKs := Aside0.mk (show (l[j]'hjl).f0.size ≤ 274877906944 from Nat.le_trans (HSh.out _ (List.getElem_mem hjl)) (by decide))
      clear y0 y1
      obtain ⟨s, hs⟩ : ∃ s, s = (l[j]'hjl).f0 := ⟨_, rfl⟩
      rw [← hs] at a0 HE HKs
      clear hs
      go_wp2_with (first
        | go_region
        | (go_at_call 38; refine (gone_Q _ s HKs.out).mono ?_; rintro e w5 ⟨rfl, hb⟩; replace hb := (below_drew1 (Below.refl wr.heap.size wr)).trans hb; have HB5 := Aside0.mk (HB.out.trans (hb.mono HB.out.size)); have HR5 := Aside0.mk (Kd.R_below HR.out hb); have bx5 := (hb.block gb (blk_lt bx3)).trans bx3; clear hb)
        | ((with_reducible refine gate_builtin (b := .append) (xs := #[.tmp 51, .tmp 61]) rfl ?_); (try (refine gate_guard (by rfl) ?_; dsimp only)); at_builtin; refine Kd.R_append Kd.string (w0 := W) W.heap.size rfl (.tmp 51) (.tmp 61) 22 9 (.string ⟨#[]⟩) 16 rfl Try.underlying22 infoS rfl (by decide) (by decide) u10 (gones l j) (recG s) [.string (recG s)] (fun _ => True) (fun _ => False) rfl rfl rfl (fun _ h => h.elim) (fun _ _ => trivial) HR5.out HB5.out HB5.out.size (gones_len l j (by have := HL.out; omega)) ?_; intro v1 w6 hr5 hb5 hg5 hat5; have bx6 := blk_grown bx5 hg5 (Kd.R_ne HR5.out bx5 (by decide)); have HR6 := Aside0.mk hr5; have HB6 := Aside0.mk hb5; clear hr5 hb5 hg5 hat5))
      go_roundw
      case rel => exact ⟨j + 1, hlt, vE hlt (by have := HL.out; have := HOv.out.1; omega), ⟨by rw [HE.out]; exact HR6.out⟩, HB6, bx6⟩
      case measure => exact m2E hlt (by have := HL.out; have := HOv.out.1; omega)
    · have kb : decide ((j : Int) + m ≤ (ln : Int)) = false := decide_eq_false (fun h => hlt (by rw [HLn.out] at h; exact (HOv.out.2 j).2 h))
      have ej : j = ov := Nat.le_antisymm hj (Nat.le_of_not_lt hlt)
      subst ej
      have pa : wr.cell? ⟨gb, 0, none⟩ = some (.string key) := (blk_cell bx3 0).trans rfl
      have pb : wr.cell? ⟨gb, 1, none⟩ = some (.string val) := (blk_cell bx3 1).trans rfl
      clear z2 z3
      go_wp2_with (first
        | go_region
        | (go_at_call 37; refine (put_Q _ key val HSz.out).mono ?_; rintro e w7 ⟨rfl, hb⟩; replace hb := (below_drew1 (Below.refl wr.heap.size wr)).trans hb; have HB7 := Aside0.mk (HB.out.trans (hb.mono HB.out.size)); have HR7 := Aside0.mk (Kd.R_below HR.out hb); clear hb HB)
        | ((with_reducible refine gate_builtin (b := .append) (xs := #[.tmp 64, .tmp 67]) rfl ?_); (try (refine gate_guard (by rfl) ?_; dsimp only)); at_builtin; refine Kd.R_append Kd.string (w0 := W) W.heap.size rfl (.tmp 64) (.tmp 67) 22 9 (.string ⟨#[]⟩) 16 rfl Try.underlying22 infoS rfl (by decide) (by decide) u10 (gones l j) (recP key val) [.string (recP key val)] (fun _ => True) (fun _ => False) rfl rfl rfl (fun _ h => h.elim) (fun _ _ => trivial) HR7.out HB7.out HB7.out.size (by rw [gones_length]; have := HL.out; omega) ?_; intro v1 w8 hr5 hb5 hg5 hat5; have HR8 := Aside0.mk hr5; have HB8 := Aside0.mk hb5; clear hr5 hb5 hg5 hat5)
        | (go_at_call 39; have hr8 := HR8.out; obtain ⟨A8, c8, e8⟩ := Kd.R_slice hr8; rw [e8] at hr8; have hC8 := R_strs8 hr8; subst e8; refine (write_e (H.out.below HB8.out) HU.out HK.out (TRow.of hr8 (fun j hj => hj.elim (H.out.dev.hi j) (H.out.st.hi j))) hC8 (fun r hr => by
        rcases List.mem_append.1 hr with hr | hr
        · obtain ⟨x, hx, rfl⟩ := List.mem_map.1 hr
          obtain ⟨y, hy, rfl⟩ := List.mem_map.1 hx
          exact .inr ⟨_, rfl, by rw [recG_size]; have := HSh.out y (List.mem_of_mem_take hy); omega⟩
        · rcases List.mem_singleton.1 hr with rfl
          exact .inl ⟨_, _, rfl, HOk.out⟩) HPl.out (by rw [List.length_append, gones_length, List.length_singleton]; have := HL.out; omega) HAp.out HEr.out).mono ?_; rintro e w9 ⟨rfl, S1', S2', h9, s9⟩; have H9 := Aside0.mk h9; have HS9 := Aside0.mk (Step.after s9 HB8.out); clear h9 s9))
      go_ret
      exact ⟨rfl, S1', S2', H9.out, HS9.out⟩
set_option maxHeartbeats 4000000 in
set_option maxRecDepth 100000 in
theorem Put_old_ok (h : KD S1 S2 B W gd g d n m l) (u : d.Up k) (hk : k < 4611686018427387904) (hok : (recP key val).size ≤ 65536) (hl : l.length + l.length + 2 ≤ 1048576) (hm : 1 ≤ m ∧ m ≤ 4096) (hsh : Short l) {old : ByteArray} (hg : getE l key = some old) (hne : old ≠ val) (hlen : (Fr.putB (putRecs l m key val)).length ≤ 4294967296) (ha : d.append n (Fr.putB (putRecs l m key val)) = (0, d')) : Calls Try.prog 13 #[.pointer (some ⟨g, 0, none⟩), .string key, .string val] W fun e W' => e = .returned (.int .i64 0) ∧ ∃ S1' S2', KD S1' S2' B W' gd g d' n m (stepAll l (putRecs l m key val)) ∧ Step (U S1 S2) W (U S1' S2') W' := by
  have hu := Try.underlying82
  have HSz := Aside0.mk (show key.size + val.size ≤ 274877906944 from by have := recP_size key val; omega)
  have HOk := Aside0.mk hok
  have HG1 := Aside0.mk (show ∀ w1, Below W.heap.size W w1 → Calls Try.prog 12 #[.pointer (some ⟨g, 0, none⟩), .string key] w1 fun e w' => e = .returned (.tuple #[.string ((getE l key).getD ⟨#[]⟩), .bool (getE l key).isSome]) ∧ Below w1.heap.size w1 w' from fun w1 hb => by
    obtain ⟨v, hv⟩ := (h.st.below hb).at_
    exact Get_Q hv key (by omega))
  rw [hg] at HG1
  have er0 : putRecs l m key val = [] ++ [recP key val] := by
    unfold putRecs
    rw [hg]
    rfl
  have eb : (old.toList == val.toList) = false := beq_eq_false_iff_ne.mpr (fun h => hne (ba_inj h))
  have HRs := Aside0.mk er0
  rw [er0] at ha hlen
  obtain ⟨v, hv⟩ := h.st.at_
  have z2 : W.cell? ⟨g, 2, none⟩ = some (.int .i64 m) := hv.cell 2
  have z3 : W.cell? ⟨g, 3, none⟩ = some v := hv.cell 3
  obtain ⟨A0, c0, ev, hall⟩ := hv.entry
  subst ev
  have HAll := Aside0.mk hall
  have HSh := Aside0.mk hsh
  have HAp := Aside0.mk ha
  have HPl := Aside0.mk hlen
  have HL := Aside0.mk hl
  have HM := Aside0.mk hm
  have HU := Aside0.mk u
  have HK := Aside0.mk hk
  have H := Aside0.mk h
  obtain ⟨ln, hln⟩ : ∃ ln, ln = l.length := ⟨_, rfl⟩
  have HLn := Aside0.mk hln
  rw [← hln] at z3
  clear h hok hl hg hall hsh ha hlen hm u hk hv er0 hln
  go_enter Try.func13, Try.ntmps13
  go_wp2_with (first
    | ((with_reducible refine gate_dst (N := 7) rfl ?_); refine box_event ?hg (N := 7) ?hd (cs := #[.string (⟨#[]⟩ : ByteArray), .string (⟨#[]⟩ : ByteArray)]) (t := 82) ?hr ?_; (case hd => rfl); (case hg => rfl); (case hr => first | (go_simp; done) | (go_simp; rfl)); intro gb hg wq hbox hb; have BX := Aside0.mk (box_pair (W := W) hbox (Nat.le_of_eq hg.symm) hb (.string key) (.string val)); have qa : wq.cell? ⟨gb, 0, none⟩ = some (.string (⟨#[]⟩ : ByteArray)) := (blk_cell hbox 0).trans rfl; have qb : wq.cell? ⟨gb, 1, none⟩ = some (.string (⟨#[]⟩ : ByteArray)) := (blk_cell hbox 1).trans rfl; have ra := blk_frozen hbox 0; have rb := blk_frozen hbox 1; clear hbox hb hg)
    | (go_at_call 37; refine (put_Q _ key val HSz.out).mono ?_; rintro e w1 ⟨rfl, hb⟩; have HB1 := Aside0.mk (BX.out.2.trans (hb.mono BX.out.2.size)); have bx1 := (hb.block gb (blk_lt BX.out.1)).trans BX.out.1; obtain ⟨rp, hrp⟩ : ∃ rp, rp = recP key val := ⟨_, rfl⟩; have HRp := Aside0.mk hrp; rw [← hrp]; have hz : decide ((65536 : Int) < (rp.size : Int)) = false := decide_eq_false (by rw [HRp.out]; exact fun h => Nat.not_lt.2 HOk.out (Int.ofNat_lt.1 h)); clear hb hrp BX)
    | (go_at_call 12; refine (HG1.out w1 HB1.out).mono ?_; rintro e w2 ⟨rfl, hb⟩; have HB2 := Aside0.mk (HB1.out.trans (hb.mono HB1.out.size)); have bx2 := (hb.block gb (blk_lt bx1)).trans bx1; clear hb HG1 HB1 bx1))
  go_loopw [10, 11] (fun o i wr => ∃ (j : Nat), j = 0 ∧ i = .int .i64 (j : Int) ∧ o = .slice none 0 0 ∧ Aside0 (Below W.heap.size W wr) ∧ wr.heap[gb]? = some (.cells #[.string key, .string val] 82 (0, 0))) (fun _ i _ => 1048576 - (intOf i).toNat)
  case atStart => exact ⟨0, rfl, rfl, rfl, HB2, bx2⟩
  case round =>
    obtain ⟨j, rfl, rfl, rfl, HB, bx3⟩ := hrel
    clear bx2 HB2
    have pa : wr.cell? ⟨gb, 0, none⟩ = some (.string key) := (blk_cell bx3 0).trans rfl
    have pb : wr.cell? ⟨gb, 1, none⟩ = some (.string val) := (blk_cell bx3 1).trans rfl
    have HR : Kd.R Kd.string 9 wr W.heap.size (fun _ => True) (.slice none 0 0) [] := Kd.R_nil _ _ _ _ _
    have HR := Aside0.mk HR
    clear z2 z3
    go_wp2_with (first
      | go_region
      | (go_at_call 37; refine (put_Q _ key val HSz.out).mono ?_; rintro e w7 ⟨rfl, hb⟩; replace hb := (below_drew1 (Below.refl wr.heap.size wr)).trans hb; have HB7 := Aside0.mk (HB.out.trans (hb.mono HB.out.size)); have HR7 := Aside0.mk (Kd.R_below HR.out hb); clear hb HB)
      | ((with_reducible refine gate_builtin (b := .append) (xs := #[.tmp 64, .tmp 67]) rfl ?_); (try (refine gate_guard (by rfl) ?_; dsimp only)); at_builtin; refine Kd.R_append Kd.string (w0 := W) W.heap.size rfl (.tmp 64) (.tmp 67) 22 9 (.string ⟨#[]⟩) 16 rfl Try.underlying22 infoS rfl (by decide) (by decide) (.slice none 0 0) [] (recP key val) [.string (recP key val)] (fun _ => True) (fun _ => False) rfl rfl rfl (fun _ h => h.elim) (fun _ _ => trivial) HR7.out HB7.out HB7.out.size (by have := HL.out; simp only [List.length_nil]; omega) ?_; intro v1 w8 hr5 hb5 hg5 hat5; have HR8 := Aside0.mk hr5; have HB8 := Aside0.mk hb5; clear hr5 hb5 hg5 hat5)
      | (go_at_call 39; have hr8 := HR8.out; obtain ⟨A8, c8, e8⟩ := Kd.R_slice hr8; rw [e8] at hr8; have hC8 := R_strs8 hr8; subst e8; refine (write_ok (H.out.below HB8.out) HU.out HK.out (TRow.of hr8 (fun j hj => hj.elim (H.out.dev.hi j) (H.out.st.hi j))) hC8 (fun r hr => by rcases List.mem_singleton.1 hr with rfl; exact .inl ⟨_, _, rfl, HOk.out⟩) HPl.out (by simp only [List.nil_append, List.length_singleton]; have := HL.out; omega) HAp.out).mono ?_; rintro e w9 ⟨rfl, S1', S2', h9, s9⟩; have H9 := Aside0.mk h9; have HS9 := Aside0.mk (Step.after s9 HB8.out); clear h9 s9))
    go_ret
    exact ⟨rfl, S1', S2', by rw [HRs.out]; exact H9.out, HS9.out⟩
set_option maxHeartbeats 4000000 in
set_option maxRecDepth 100000 in
theorem Put_old_e (h : KD S1 S2 B W gd g d n m l) (u : d.Up k) (hk : k < 4611686018427387904) (hok : (recP key val).size ≤ 65536) (hl : l.length + l.length + 2 ≤ 1048576) (hm : 1 ≤ m ∧ m ≤ 4096) (hsh : Short l) {old : ByteArray} (hg : getE l key = some old) (hne : old ≠ val) (hlen : (Fr.putB (putRecs l m key val)).length ≤ 4294967296) (ha : d.append n (Fr.putB (putRecs l m key val)) = (er, d')) (he : er ≠ 0) : Calls Try.prog 13 #[.pointer (some ⟨g, 0, none⟩), .string key, .string val] W fun e W' => e = .returned (.int .i64 er) ∧ ∃ S1' S2', KD S1' S2' B W' gd g d' n m l ∧ Step (U S1 S2) W (U S1' S2') W' := by
  have hu := Try.underlying82
  have HSz := Aside0.mk (show key.size + val.size ≤ 274877906944 from by have := recP_size key val; omega)
  have HOk := Aside0.mk hok
  have HG1 := Aside0.mk (show ∀ w1, Below W.heap.size W w1 → Calls Try.prog 12 #[.pointer (some ⟨g, 0, none⟩), .string key] w1 fun e w' => e = .returned (.tuple #[.string ((getE l key).getD ⟨#[]⟩), .bool (getE l key).isSome]) ∧ Below w1.heap.size w1 w' from fun w1 hb => by
    obtain ⟨v, hv⟩ := (h.st.below hb).at_
    exact Get_Q hv key (by omega))
  rw [hg] at HG1
  have er0 : putRecs l m key val = [] ++ [recP key val] := by
    unfold putRecs
    rw [hg]
    rfl
  have eb : (old.toList == val.toList) = false := beq_eq_false_iff_ne.mpr (fun h => hne (ba_inj h))
  have HRs := Aside0.mk er0
  rw [er0] at ha hlen
  obtain ⟨v, hv⟩ := h.st.at_
  have z2 : W.cell? ⟨g, 2, none⟩ = some (.int .i64 m) := hv.cell 2
  have z3 : W.cell? ⟨g, 3, none⟩ = some v := hv.cell 3
  obtain ⟨A0, c0, ev, hall⟩ := hv.entry
  subst ev
  have HAll := Aside0.mk hall
  have HSh := Aside0.mk hsh
  have HAp := Aside0.mk ha
  have HPl := Aside0.mk hlen
  have HL := Aside0.mk hl
  have HM := Aside0.mk hm
  have HU := Aside0.mk u
  have HK := Aside0.mk hk
  have H := Aside0.mk h
  obtain ⟨ln, hln⟩ : ∃ ln, ln = l.length := ⟨_, rfl⟩
  have HLn := Aside0.mk hln
  rw [← hln] at z3
  have HEr := Aside0.mk he
  clear he
  clear h hok hl hg hall hsh ha hlen hm u hk hv er0 hln
  go_enter Try.func13, Try.ntmps13
  go_wp2_with (first
    | ((with_reducible refine gate_dst (N := 7) rfl ?_); refine box_event ?hg (N := 7) ?hd (cs := #[.string (⟨#[]⟩ : ByteArray), .string (⟨#[]⟩ : ByteArray)]) (t := 82) ?hr ?_; (case hd => rfl); (case hg => rfl); (case hr => first | (go_simp; done) | (go_simp; rfl)); intro gb hg wq hbox hb; have BX := Aside0.mk (box_pair (W := W) hbox (Nat.le_of_eq hg.symm) hb (.string key) (.string val)); have qa : wq.cell? ⟨gb, 0, none⟩ = some (.string (⟨#[]⟩ : ByteArray)) := (blk_cell hbox 0).trans rfl; have qb : wq.cell? ⟨gb, 1, none⟩ = some (.string (⟨#[]⟩ : ByteArray)) := (blk_cell hbox 1).trans rfl; have ra := blk_frozen hbox 0; have rb := blk_frozen hbox 1; clear hbox hb hg)
    | (go_at_call 37; refine (put_Q _ key val HSz.out).mono ?_; rintro e w1 ⟨rfl, hb⟩; have HB1 := Aside0.mk (BX.out.2.trans (hb.mono BX.out.2.size)); have bx1 := (hb.block gb (blk_lt BX.out.1)).trans BX.out.1; obtain ⟨rp, hrp⟩ : ∃ rp, rp = recP key val := ⟨_, rfl⟩; have HRp := Aside0.mk hrp; rw [← hrp]; have hz : decide ((65536 : Int) < (rp.size : Int)) = false := decide_eq_false (by rw [HRp.out]; exact fun h => Nat.not_lt.2 HOk.out (Int.ofNat_lt.1 h)); clear hb hrp BX)
    | (go_at_call 12; refine (HG1.out w1 HB1.out).mono ?_; rintro e w2 ⟨rfl, hb⟩; have HB2 := Aside0.mk (HB1.out.trans (hb.mono HB1.out.size)); have bx2 := (hb.block gb (blk_lt bx1)).trans bx1; clear hb HG1 HB1 bx1))
  go_loopw [10, 11] (fun o i wr => ∃ (j : Nat), j = 0 ∧ i = .int .i64 (j : Int) ∧ o = .slice none 0 0 ∧ Aside0 (Below W.heap.size W wr) ∧ wr.heap[gb]? = some (.cells #[.string key, .string val] 82 (0, 0))) (fun _ i _ => 1048576 - (intOf i).toNat)
  case atStart => exact ⟨0, rfl, rfl, rfl, HB2, bx2⟩
  case round =>
    obtain ⟨j, rfl, rfl, rfl, HB, bx3⟩ := hrel
    clear bx2 HB2
    have pa : wr.cell? ⟨gb, 0, none⟩ = some (.string key) := (blk_cell bx3 0).trans rfl
    have pb : wr.cell? ⟨gb, 1, none⟩ = some (.string val) := (blk_cell bx3 1).trans rfl
    have HR : Kd.R Kd.string 9 wr W.heap.size (fun _ => True) (.slice none 0 0) [] := Kd.R_nil _ _ _ _ _
    have HR := Aside0.mk HR
    clear z2 z3
    go_wp2_with (first
      | go_region
      | (go_at_call 37; refine (put_Q _ key val HSz.out).mono ?_; rintro e w7 ⟨rfl, hb⟩; replace hb := (below_drew1 (Below.refl wr.heap.size wr)).trans hb; have HB7 := Aside0.mk (HB.out.trans (hb.mono HB.out.size)); have HR7 := Aside0.mk (Kd.R_below HR.out hb); clear hb HB)
      | ((with_reducible refine gate_builtin (b := .append) (xs := #[.tmp 64, .tmp 67]) rfl ?_); (try (refine gate_guard (by rfl) ?_; dsimp only)); at_builtin; refine Kd.R_append Kd.string (w0 := W) W.heap.size rfl (.tmp 64) (.tmp 67) 22 9 (.string ⟨#[]⟩) 16 rfl Try.underlying22 infoS rfl (by decide) (by decide) (.slice none 0 0) [] (recP key val) [.string (recP key val)] (fun _ => True) (fun _ => False) rfl rfl rfl (fun _ h => h.elim) (fun _ _ => trivial) HR7.out HB7.out HB7.out.size (by have := HL.out; simp only [List.length_nil]; omega) ?_; intro v1 w8 hr5 hb5 hg5 hat5; have HR8 := Aside0.mk hr5; have HB8 := Aside0.mk hb5; clear hr5 hb5 hg5 hat5)
      | (go_at_call 39; have hr8 := HR8.out; obtain ⟨A8, c8, e8⟩ := Kd.R_slice hr8; rw [e8] at hr8; have hC8 := R_strs8 hr8; subst e8; refine (write_e (H.out.below HB8.out) HU.out HK.out (TRow.of hr8 (fun j hj => hj.elim (H.out.dev.hi j) (H.out.st.hi j))) hC8 (fun r hr => by rcases List.mem_singleton.1 hr with rfl; exact .inl ⟨_, _, rfl, HOk.out⟩) HPl.out (by simp only [List.nil_append, List.length_singleton]; have := HL.out; omega) HAp.out HEr.out).mono ?_; rintro e w9 ⟨rfl, S1', S2', h9, s9⟩; have H9 := Aside0.mk h9; have HS9 := Aside0.mk (Step.after s9 HB8.out); clear h9 s9))
    go_ret
    exact ⟨rfl, S1', S2', H9.out, HS9.out⟩
end
def draftN (n : ByteArray) : ByteArray := n ++ ⟨#[46, 110, 101, 119]⟩
section
variable {S1 S1' S2 S2' : Nat → Prop} {B : Nat} {W W' W1 : World} {g gd : Nat} {n : ByteArray} {m : Int} {l : List E} {d d1 d2 : DS} {k er : Int} {rs : List (List Int)} {b : List Int}
abbrev newSt (W : World) (gd : Nat) (n : ByteArray) (m : Int) : World := W.alloc (.cells #[.pointer (some ⟨gd, 0, none⟩), .string n, .int .i64 m, .slice none 0 0] 70 (0, 0))
theorem KD.new (h : Dev S1 B W gd d) (hB : B ≤ W.heap.size) (n : ByteArray) (m : Int) : KD S1 (fun k => k = W.heap.size) B (newSt W gd n m) gd W.heap.size d n m [] := by
  have hb := below_alloc (Below.refl W.heap.size W) (.cells #[.pointer (some ⟨gd, 0, none⟩), .string n, .int .i64 m, .slice none 0 0] 70 (0, 0))
  refine ⟨h.below hb, ⟨⟨.slice none 0 0, ⟨blk_new W _, rfl, Kd.R_nil _ _ _ _ _⟩⟩, ?_, ?_⟩, ?_, Nat.le_trans hB hb.size⟩
  · rintro k rfl; exact hB
  · rintro k rfl
    exact blk_lt (blk_new W _)
  · rintro k hk rfl
    exact Nat.lt_irrefl _ (h.hi _ hk)
theorem Step.fresh {S' : Nat → Prop} (st : Step (U S1 (fun k => k = W.heap.size)) (newSt W gd n m) S' W') : Step S1 W S' W' := by
  have hb := below_alloc (Below.refl W.heap.size W) (.cells #[.pointer (some ⟨gd, 0, none⟩), .string n, .int .i64 m, .slice none 0 0] 70 (0, 0))
  refine ⟨((Only.refl S1 W).below hb).thenN st.only (fun k hk => hk.elim .inl (fun e => .inr (Nat.le_of_eq e.symm))), fun k hk => ?_⟩
  rcases st.sub k hk with (h | h) | h
  · exact .inl h
  · exact .inr (Nat.le_of_eq h.symm)
  · exact .inr (Nat.le_trans hb.size h)
theorem Step.dev (st : Step (U S1 S2) W (U S1' S2') W') (hd : ∀ k, S1' k → S1 k ∨ W.heap.size ≤ k) : Step (U S1 S2) W S1' W' := ⟨st.only, fun k hk => (hd k hk).elim (fun h => .inl (.inl h)) .inr⟩
theorem Step.part (st : Step S1 W (U S1' S2') W') : Step S1 W S1' W' := ⟨st.only, fun k hk => st.sub k (.inl hk)⟩
theorem frameSplit_Q (W : World) {A : Option Addr} {c bl tot rl : Nat} (ebl : bl = b.length) (etot : tot = Fr.total rs) (erl : rl = rs.length) (hC : bK.C W A b.length b) (hc : b.length ≤ c) (hb : Byt b) (hl : b.length ≤ 16777216) (hs : Fr.Splits b rs) (hS : ∀ k, S1 k → k < W.heap.size) :
    Calls Try.prog 33 #[.slice A bl c] W fun e W' => ∃ A' c', e = .returned (.tuple #[.slice A' rl c', .int .i64 (tot : Int)]) ∧ TRow S1 W' A' rl (rs.map strOfNums) ∧ Below W.heap.size W W' := by
  subst ebl
  subst etot
  subst erl
  obtain ⟨K, hK⟩ := Fr.split_ev b hb hl rs hs
  refine (frame_Split.calls K A c b (rs.map strOfNums) (Fr.total rs : Int) W hC hc (hK K (Nat.le_refl _))).mono ?_
  rintro e W' ⟨v, rfl, hr, hb⟩
  obtain ⟨A', c', rfl⟩ := Kd.R_slice hr
  have h9 := TRow.of (S := S1) hr hS
  rw [List.length_map] at h9 ⊢
  exact ⟨A', c', rfl, h9, hb⟩
theorem R_cap3 {W : World} {base c : Nat} {A : Option Addr} {xs : List Int} (h : bK.R 5 W base (fun _ => True) (.slice A xs.length c) xs) : xs.length ≤ c := by
  rcases R_shape h with ⟨e1, e2⟩ | ⟨q, cap, e1, h1, h2⟩
  · rw [e2]; exact Nat.zero_le _
  · injection e1 with _ _ e1
    rw [e1]; exact h2
set_option maxHeartbeats 4000000 in
set_option maxRecDepth 100000 in
theorem Open_none (h : Dev S1 B W gd d) (hB : B ≤ W.heap.size) (u : d.Up k) (hk : k < 4611686018427387900) (hn : n ≠ ⟨#[]⟩ ∧ n.size ≤ 28) (hm : 1 ≤ m ∧ m ≤ 4096) {r1 : Int} (h5 : r1 = 0 ∨ r1 = 5) (hrem : d.remove (draftN n) = (r1, d1)) (hread : d1.read n = (b, 5)) : Calls Try.prog 10 #[.pointer (some ⟨gd, 0, none⟩), .string n, .int .i64 m] W fun e W' => e = .returned (.tuple #[.pointer (some ⟨W.heap.size, 0, none⟩), .int .i64 0]) ∧ ∃ S1' S2', KD S1' S2' B W' gd W.heap.size d1 n m [] ∧ Step S1 W (U S1' S2') W' := by
  have hu := Try.underlying70
  have H0 := Aside0.mk (KD.new h hB n m)
  have HN28 := Aside0.mk hn.2
  have HU := Aside0.mk u
  have HK := Aside0.mk hk
  have en : (n.toList == ([] : List UInt8)) = false := beq_eq_false_iff_ne.mpr (fun e => hn.1 (ba_inj (by rw [e, ba_toList])))
  obtain ⟨q, hq⟩ : ∃ q, n.size = q := ⟨_, rfl⟩
  have e28 : decide ((28 : Int) < (q : Int)) = false := decide_eq_false (by have := hn.2; omega)
  have em1 : decide (m < 1) = false := decide_eq_false (by omega)
  have em2 : decide ((4096 : Int) < m) = false := decide_eq_false (by omega)
  have HRem := Aside0.mk hrem
  have HU1 := Aside0.mk (show d1.Up (k + 1) from by have h9 := u.remove (draftN n); rw [hrem] at h9; exact h9)
  have HRd := Aside0.mk hread
  rcases h5 with rfl | rfl
  all_goals
    clear h hB u hk hn hm hrem hread
    go_enter Try.func10, Try.ntmps10
    go_wp2_with (first
      | (go_at_call 32; obtain ⟨v0, hv0⟩ := H0.out.st.at_; refine (draft_Q hv0 HN28.out).mono ?_; rintro e w1 ⟨rfl, hb⟩; have H1 := Aside0.mk (H0.out.below hb); have S1_ := Aside0.mk (Step.same (S := U S1 (fun k => k = W.heap.size)) hb); clear hb hv0 H0)
      | (go_at_call 31; refine (Remove_D H1.out.dev H1.out.size HU.out (by have := HK.out; omega) HRem.out).mono ?_; rintro e w2 ⟨S1a, rfl, hd, hs⟩; have H2 := Aside0.mk (H1.out.devStep hd hs).1; have S2_ := Aside0.mk (Step.trans S1_.out (H1.out.devStep hd hs).2); clear hd hs H1 S1_)
      | (go_at_call 18; refine (Read_D H2.out.dev HU1.out HRd.out).mono ?_; rintro e w3 ⟨A3, c3, rfl, hr3, hd3, hb3⟩; have H3 := Aside0.mk (H2.out.below hb3); have S3_ := Aside0.mk (Step.behind S2_.out hb3); have HC3 := Aside0.mk (Kd.R_reads' hr3).2.2; have Hc3 := Aside0.mk (R_cap3 hr3); clear hr3 hd3 hb3 H2 S2_))
    go_ret2
    exact ⟨rfl, S1a, _, H3.out, Step.fresh S3_.out⟩
set_option maxHeartbeats 4000000 in
set_option maxRecDepth 100000 in
theorem Open_all (h : Dev S1 B W gd d) (hB : B ≤ W.heap.size) (u : d.Up k) (hk : k < 4611686018427387900) (hn : n ≠ ⟨#[]⟩ ∧ n.size ≤ 28) (hm : 1 ≤ m ∧ m ≤ 4096) {r1 : Int} (h5 : r1 = 0 ∨ r1 = 5) (hrem : d.remove (draftN n) = (r1, d1)) (hread : d1.read n = (b, 0)) (hby : Byt b) (hbl : b.length ≤ 16777216) (hsp : Fr.Splits b rs) (hgood : ∀ r ∈ rs.map strOfNums, Good r) (hfew : rs.length ≤ 1048576) (hlt : Fr.total rs = b.length) : Calls Try.prog 10 #[.pointer (some ⟨gd, 0, none⟩), .string n, .int .i64 m] W fun e W' => e = .returned (.tuple #[.pointer (some ⟨W.heap.size, 0, none⟩), .int .i64 0]) ∧ ∃ S1' S2', KD S1' S2' B W' gd W.heap.size d1 n m (stepAll [] (rs.map strOfNums)) ∧ Step S1 W (U S1' S2') W' := by
  have hu := Try.underlying70
  have H0 := Aside0.mk (KD.new h hB n m)
  have HN28 := Aside0.mk hn.2
  have HU := Aside0.mk u
  have HK := Aside0.mk hk
  have en : (n.toList == ([] : List UInt8)) = false := beq_eq_false_iff_ne.mpr (fun e => hn.1 (ba_inj (by rw [e, ba_toList])))
  obtain ⟨q, hq⟩ : ∃ q, n.size = q := ⟨_, rfl⟩
  have e28 : decide ((28 : Int) < (q : Int)) = false := decide_eq_false (by have := hn.2; omega)
  have em1 : decide (m < 1) = false := decide_eq_false (by omega)
  have em2 : decide ((4096 : Int) < m) = false := decide_eq_false (by omega)
  have HRem := Aside0.mk hrem
  have HU1 := Aside0.mk (show d1.Up (k + 1) from by have h9 := u.remove (draftN n); rw [hrem] at h9; exact h9)
  have HRd := Aside0.mk hread
  have HBy := Aside0.mk hby
  have HBl := Aside0.mk hbl
  have HSp := Aside0.mk hsp
  obtain ⟨tot, htot⟩ : ∃ tot, tot = Fr.total rs := ⟨_, rfl⟩
  have HTo := Aside0.mk htot
  obtain ⟨bl, hbl2⟩ : ∃ bl, bl = b.length := ⟨_, rfl⟩
  have HBe := Aside0.mk hbl2
  obtain ⟨rl, hrl⟩ : ∃ rl, rl = rs.length := ⟨_, rfl⟩
  have HRl := Aside0.mk hrl
  have HGd := Aside0.mk hgood
  have HFew := Aside0.mk hfew
  have ec : decide ((tot : Int) < (bl : Int)) = false := decide_eq_false (by rw [htot, hbl2, hlt]; exact Int.lt_irrefl _)
  have ec2 : decide (tot < bl) = false := decide_eq_false (by rw [htot, hbl2, hlt]; exact Nat.lt_irrefl _)
  rcases h5 with rfl | rfl
  all_goals
    clear h hB u hk hn hm hrem hread hby hbl hsp htot hbl2 hlt hrl hgood hfew
    go_enter Try.func10, Try.ntmps10
    go_wp2_with (first
      | (go_at_call 32; obtain ⟨v0, hv0⟩ := H0.out.st.at_; refine (draft_Q hv0 HN28.out).mono ?_; rintro e w1 ⟨rfl, hb⟩; have H1 := Aside0.mk (H0.out.below hb); have S1_ := Aside0.mk (Step.same (S := U S1 (fun k => k = W.heap.size)) hb); clear hb hv0 H0)
      | (go_at_call 31; refine (Remove_D H1.out.dev H1.out.size HU.out (by have := HK.out; omega) HRem.out).mono ?_; rintro e w2 ⟨S1a, rfl, hd, hs⟩; have H2 := Aside0.mk (H1.out.devStep hd hs).1; have S2_ := Aside0.mk (Step.trans S1_.out (H1.out.devStep hd hs).2); clear hd hs H1 S1_)
      | (go_at_call 18; refine (Read_D H2.out.dev HU1.out HRd.out).mono ?_; rintro e w3 ⟨A3, c3, rfl, hr3, hd3, hb3⟩; rw [← HBe.out]; have H3 := Aside0.mk (H2.out.below hb3); have S3_ := Aside0.mk (Step.behind S2_.out hb3); have HC3 := Aside0.mk (Kd.R_reads' hr3).2.2; have Hc3 := Aside0.mk (R_cap3 hr3); clear hr3 hd3 hb3 H2 S2_)
      | (go_at_call 33; refine (frameSplit_Q (S1 := U S1a (fun k => k = W.heap.size)) w3 HBe.out HTo.out HRl.out HC3.out Hc3.out HBy.out HBl.out HSp.out (fun k hk => hk.elim (H3.out.dev.hi k) (H3.out.st.hi k))).mono ?_; rintro e w4 ⟨A4, c4, rfl, hT4, hb4⟩; have H4 := Aside0.mk (H3.out.below hb4); have S4_ := Aside0.mk (Step.behind S3_.out hb4); have HT4 := Aside0.mk hT4; clear hT4 hb4 H3 S3_ HC3))
    go_loopw [82] (fun i wr => ∃ (j : Nat) (S2' : Nat → Prop), j ≤ rl ∧ i = .int .i64 (j : Int) ∧ Aside0 (KD S1a S2' B wr gd W.heap.size d1 n m (stepAll [] ((rs.map strOfNums).take j))) ∧ Aside0 (Step (U S1 (fun k => k = W.heap.size)) (newSt W gd n m) (U S1a S2') wr) ∧ Aside0 (TRow (U S1a S2') wr A4 rl (rs.map strOfNums))) (fun i _ => rl - (intOf i).toNat)
    case atStart => exact ⟨0, _, Nat.zero_le _, rfl, H4, S4_, HT4⟩
    case round =>
      obtain ⟨j, S2', hj, rfl, HD, HSt, HTr⟩ := hrel
      clear H4 S4_ HT4
      by_cases hlt : j < rl
      · have kb : decide ((j : Int) < (rl : Int)) = true := decide_eq_true (Int.ofNat_lt.2 hlt)
        have hjr : j < (rs.map strOfNums).length := by rw [List.length_map, ← HRl.out]; exact hlt
        obtain ⟨ad, rfl, y0⟩ := Kd.at_string HTr.out.C (j : Int) (by omega) (by omega)
        rw [Int.toNat_natCast] at y0
        obtain ⟨r, hr⟩ : ∃ r, r = rdOf ByteArray.empty (rs.map strOfNums) (j : Int) := ⟨_, rfl⟩
        rw [← hr] at y0
        have er : r = (rs.map strOfNums)[j]'hjr := by
          rw [hr]
          unfold rdOf
          rw [Int.toNat_natCast, List.getD_eq_getElem?_getD, List.getElem?_eq_getElem hjr]
          rfl
        have HGr := Aside0.mk (show Good r from by rw [er]; exact HGd.out _ (List.getElem_mem hjr))
        have HSp2 := Aside0.mk (show stepAll [] ((rs.map strOfNums).take (j + 1)) = stepE (stepAll [] ((rs.map strOfNums).take j)) r from by rw [er]; exact stepAll_take hjr)
        have HLl := Aside0.mk (show (stepAll [] ((rs.map strOfNums).take j)).length ≤ 1048576 from by
          have h1 := stepAll_len (l := []) (rs := (rs.map strOfNums).take j) (fun x hx => HGd.out x (List.mem_of_mem_take hx))
          rw [List.length_take, List.length_nil] at h1
          have := HFew.out
          have := HRl.out
          omega)
        clear hr er hjr
        go_wp2_with (first
          | (go_at_call 35; refine (done_K HD.out.st HD.out.size HGr.out HLl.out).mono ?_; rintro e w9 ⟨rfl, S3, h3, hs3⟩; have H9 := Aside0.mk (HD.out.stStep h3 hs3); have HS9 := Aside0.mk (Step.trans HSt.out H9.out.2); have HT9 := Aside0.mk (TRow.step HTr.out H9.out.2); clear h3 hs3 HD HSt HTr))
        go_roundw
        case rel => exact ⟨j + 1, S3, hlt, vE hlt (by have := HFew.out; have := HRl.out; omega), ⟨by rw [HSp2.out]; exact H9.out.1⟩, HS9, HT9⟩
        case measure => exact mE hlt (by have := HFew.out; have := HRl.out; omega)
      · have ej : j = (rs.map strOfNums).length := by rw [List.length_map]; have := HRl.out; omega
        have EJ := Aside0.mk ej
        clear ej
        have kb : decide ((j : Int) < (rl : Int)) = false := decide_eq_false (fun h => hlt (Int.ofNat_lt.1 h))
        have kb2 : decide (j < rl) = false := decide_eq_false hlt
        clear ec ec2
        go_wp2
        go_ret2
        have h9 := HD.out
        rw [EJ.out, List.take_length] at h9
        exact ⟨rfl, S1a, S2', h9, Step.fresh HSt.out⟩
set_option maxHeartbeats 4000000 in
set_option maxRecDepth 100000 in
theorem Open_some (h : Dev S1 B W gd d) (hB : B ≤ W.heap.size) (u : d.Up k) (hk : k < 4611686018427387900) (hn : n ≠ ⟨#[]⟩ ∧ n.size ≤ 28) (hm : 1 ≤ m ∧ m ≤ 4096) {r1 : Int} (h5 : r1 = 0 ∨ r1 = 5) (hrem : d.remove (draftN n) = (r1, d1)) (hread : d1.read n = (b, 0)) (hby : Byt b) (hbl : b.length ≤ 16777216) (hsp : Fr.Splits b rs) (hgood : ∀ r ∈ rs.map strOfNums, Good r) (hfew : rs.length ≤ 1048576) (hlt : Fr.total rs < b.length) (hcut : d1.cut n (Fr.total rs : Int) = (0, d2)) : Calls Try.prog 10 #[.pointer (some ⟨gd, 0, none⟩), .string n, .int .i64 m] W fun e W' => e = .returned (.tuple #[.pointer (some ⟨W.heap.size, 0, none⟩), .int .i64 0]) ∧ ∃ S1' S2', KD S1' S2' B W' gd W.heap.size d2 n m (stepAll [] (rs.map strOfNums)) ∧ Step S1 W (U S1' S2') W' := by
  have hu := Try.underlying70
  have H0 := Aside0.mk (KD.new h hB n m)
  have HN28 := Aside0.mk hn.2
  have HU := Aside0.mk u
  have HK := Aside0.mk hk
  have en : (n.toList == ([] : List UInt8)) = false := beq_eq_false_iff_ne.mpr (fun e => hn.1 (ba_inj (by rw [e, ba_toList])))
  obtain ⟨q, hq⟩ : ∃ q, n.size = q := ⟨_, rfl⟩
  have e28 : decide ((28 : Int) < (q : Int)) = false := decide_eq_false (by have := hn.2; omega)
  have em1 : decide (m < 1) = false := decide_eq_false (by omega)
  have em2 : decide ((4096 : Int) < m) = false := decide_eq_false (by omega)
  have HRem := Aside0.mk hrem
  have HU1 := Aside0.mk (show d1.Up (k + 1) from by have h9 := u.remove (draftN n); rw [hrem] at h9; exact h9)
  have HRd := Aside0.mk hread
  have HBy := Aside0.mk hby
  have HBl := Aside0.mk hbl
  have HSp := Aside0.mk hsp
  obtain ⟨tot, htot⟩ : ∃ tot, tot = Fr.total rs := ⟨_, rfl⟩
  have HTo := Aside0.mk htot
  obtain ⟨bl, hbl2⟩ : ∃ bl, bl = b.length := ⟨_, rfl⟩
  have HBe := Aside0.mk hbl2
  obtain ⟨rl, hrl⟩ : ∃ rl, rl = rs.length := ⟨_, rfl⟩
  have HRl := Aside0.mk hrl
  have HGd := Aside0.mk hgood
  have HFew := Aside0.mk hfew
  have HCut := Aside0.mk hcut
  rw [← htot] at HCut
  have ec : decide ((tot : Int) < (bl : Int)) = true := decide_eq_true (by rw [htot, hbl2]; exact Int.ofNat_lt.2 hlt)
  have ec2 : decide (tot < bl) = true := decide_eq_true (by rw [htot, hbl2]; exact hlt)
  rcases h5 with rfl | rfl
  all_goals
    clear h hB u hk hn hm hrem hread hby hbl hsp htot hbl2 hcut hlt hrl hgood hfew
    go_enter Try.func10, Try.ntmps10
    go_wp2_with (first
      | (go_at_call 32; obtain ⟨v0, hv0⟩ := H0.out.st.at_; refine (draft_Q hv0 HN28.out).mono ?_; rintro e w1 ⟨rfl, hb⟩; have H1 := Aside0.mk (H0.out.below hb); have S1_ := Aside0.mk (Step.same (S := U S1 (fun k => k = W.heap.size)) hb); clear hb hv0 H0)
      | (go_at_call 31; refine (Remove_D H1.out.dev H1.out.size HU.out (by have := HK.out; omega) HRem.out).mono ?_; rintro e w2 ⟨S1a, rfl, hd, hs⟩; have H2 := Aside0.mk (H1.out.devStep hd hs).1; have S2_ := Aside0.mk (Step.trans S1_.out (H1.out.devStep hd hs).2); clear hd hs H1 S1_)
      | (go_at_call 18; refine (Read_D H2.out.dev HU1.out HRd.out).mono ?_; rintro e w3 ⟨A3, c3, rfl, hr3, hd3, hb3⟩; rw [← HBe.out]; have H3 := Aside0.mk (H2.out.below hb3); have S3_ := Aside0.mk (Step.behind S2_.out hb3); have HC3 := Aside0.mk (Kd.R_reads' hr3).2.2; have Hc3 := Aside0.mk (R_cap3 hr3); clear hr3 hd3 hb3 H2 S2_)
      | (go_at_call 33; refine (frameSplit_Q (S1 := U S1a (fun k => k = W.heap.size)) w3 HBe.out HTo.out HRl.out HC3.out Hc3.out HBy.out HBl.out HSp.out (fun k hk => hk.elim (H3.out.dev.hi k) (H3.out.st.hi k))).mono ?_; rintro e w4 ⟨A4, c4, rfl, hT4, hb4⟩; have H4 := Aside0.mk (H3.out.below hb4); have S4_ := Aside0.mk (Step.behind S3_.out hb4); have HT4 := Aside0.mk hT4; clear hT4 hb4 H3 S3_ HC3)
      | (go_at_call 34; refine (Cut_D H4.out.dev H4.out.size HU1.out (by have := HK.out; omega) HCut.out).mono ?_; rintro e w5 ⟨S1b, rfl, hd, hs⟩; have H5 := Aside0.mk (H4.out.devStep hd hs).1; have S5_ := Aside0.mk (Step.trans S4_.out (H4.out.devStep hd hs).2); have HT5 := Aside0.mk (TRow.step HT4.out (H4.out.devStep hd hs).2); clear hd hs H4 S4_ HT4))
    go_loopw [82] (fun i wr => ∃ (j : Nat) (S2' : Nat → Prop), j ≤ rl ∧ i = .int .i64 (j : Int) ∧ Aside0 (KD S1b S2' B wr gd W.heap.size d2 n m (stepAll [] ((rs.map strOfNums).take j))) ∧ Aside0 (Step (U S1 (fun k => k = W.heap.size)) (newSt W gd n m) (U S1b S2') wr) ∧ Aside0 (TRow (U S1b S2') wr A4 rl (rs.map strOfNums))) (fun i _ => rl - (intOf i).toNat)
    case atStart => exact ⟨0, _, Nat.zero_le _, rfl, H5, S5_, HT5⟩
    case round =>
      obtain ⟨j, S2', hj, rfl, HD, HSt, HTr⟩ := hrel
      clear H5 S5_ HT5
      by_cases hlt : j < rl
      · have kb : decide ((j : Int) < (rl : Int)) = true := decide_eq_true (Int.ofNat_lt.2 hlt)
        have hjr : j < (rs.map strOfNums).length := by rw [List.length_map, ← HRl.out]; exact hlt
        obtain ⟨ad, rfl, y0⟩ := Kd.at_string HTr.out.C (j : Int) (by omega) (by omega)
        rw [Int.toNat_natCast] at y0
        obtain ⟨r, hr⟩ : ∃ r, r = rdOf ByteArray.empty (rs.map strOfNums) (j : Int) := ⟨_, rfl⟩
        rw [← hr] at y0
        have er : r = (rs.map strOfNums)[j]'hjr := by
          rw [hr]
          unfold rdOf
          rw [Int.toNat_natCast, List.getD_eq_getElem?_getD, List.getElem?_eq_getElem hjr]
          rfl
        have HGr := Aside0.mk (show Good r from by rw [er]; exact HGd.out _ (List.getElem_mem hjr))
        have HSp2 := Aside0.mk (show stepAll [] ((rs.map strOfNums).take (j + 1)) = stepE (stepAll [] ((rs.map strOfNums).take j)) r from by rw [er]; exact stepAll_take hjr)
        have HLl := Aside0.mk (show (stepAll [] ((rs.map strOfNums).take j)).length ≤ 1048576 from by
          have h1 := stepAll_len (l := []) (rs := (rs.map strOfNums).take j) (fun x hx => HGd.out x (List.mem_of_mem_take hx))
          rw [List.length_take, List.length_nil] at h1
          have := HFew.out
          have := HRl.out
          omega)
        clear hr er hjr
        go_wp2_with (first
          | (go_at_call 35; refine (done_K HD.out.st HD.out.size HGr.out HLl.out).mono ?_; rintro e w9 ⟨rfl, S3, h3, hs3⟩; have H9 := Aside0.mk (HD.out.stStep h3 hs3); have HS9 := Aside0.mk (Step.trans HSt.out H9.out.2); have HT9 := Aside0.mk (TRow.step HTr.out H9.out.2); clear h3 hs3 HD HSt HTr))
        go_roundw
        case rel => exact ⟨j + 1, S3, hlt, vE hlt (by have := HFew.out; have := HRl.out; omega), ⟨by rw [HSp2.out]; exact H9.out.1⟩, HS9, HT9⟩
        case measure => exact mE hlt (by have := HFew.out; have := HRl.out; omega)
      · have ej : j = (rs.map strOfNums).length := by rw [List.length_map]; have := HRl.out; omega
        have EJ := Aside0.mk ej
        clear ej
        have kb : decide ((j : Int) < (rl : Int)) = false := decide_eq_false (fun h => hlt (Int.ofNat_lt.1 h))
        have kb2 : decide (j < rl) = false := decide_eq_false hlt
        clear ec ec2
        go_wp2
        go_ret2
        have h9 := HD.out
        rw [EJ.out, List.take_length] at h9
        exact ⟨rfl, S1b, S2', h9, Step.fresh HSt.out⟩
end
def writeE (d : DS) (n : ByteArray) (l : List E) (rs : List ByteArray) : Int × DS × List E :=
  ((d.append n (Fr.putB rs)).1, (d.append n (Fr.putB rs)).2, if (d.append n (Fr.putB rs)).1 = 0 then stepAll l rs else l)
def putE (d : DS) (n : ByteArray) (m : Int) (l : List E) (k u : ByteArray) : Int × DS × List E :=
  if 65536 < (recP k u).size then (3, d, l) else if getE l k = some u then (0, d, l) else writeE d n l (putRecs l m k u)
theorem Good.of_put {l : List E} {m : Int} {k u : ByteArray} (hok : (recP k u).size ≤ 65536) (hsh : Short l) : ∀ r ∈ putRecs l m k u, Good r := by
  intro r hr
  unfold putRecs at hr
  rcases List.mem_append.1 hr with hr | hr
  · split at hr
    · cases hr
    · obtain ⟨x, hx, rfl⟩ := List.mem_map.1 hr
      obtain ⟨y, hy, rfl⟩ := List.mem_map.1 hx
      exact .inr ⟨_, rfl, by rw [recG_size]; have := hsh y (List.mem_of_mem_take hy); omega⟩
  · rcases List.mem_singleton.1 hr with rfl
    exact .inl ⟨_, _, rfl, hok⟩
theorem sizes_le {rs : List ByteArray} {c : Nat} (h : ∀ r ∈ rs, r.size ≤ c) : Fr.sizes rs ≤ rs.length * c := by
  induction rs with
  | nil => simp [Fr.sizes]
  | cons r rs ih =>
    have h1 := ih (fun x hx => h x (List.mem_cons_of_mem _ hx))
    have h2 := h r (List.mem_cons_self ..)
    simp only [Fr.sizes, List.length_cons, Nat.add_mul, Nat.one_mul]
    omega
theorem putB_le {rs : List ByteArray} (h : ∀ r ∈ rs, Good r) : (Fr.putB rs).length ≤ rs.length * 65544 := by
  rw [Fr.putB_length (fun s hs => (h s hs).size)]
  have := sizes_le (c := 65536) (fun r hr => (h r hr).size)
  omega
theorem putRecs_len (l : List E) (m : Int) (k u : ByteArray) : (putRecs l m k u).length ≤ l.length + 1 := by
  unfold putRecs
  rw [List.length_append, List.length_singleton]
  split
  · simp
  · rw [gones_length]; omega
section
variable {S1 S2 : Nat → Prop} {B : Nat} {W : World} {g gd : Nat} {n : ByteArray} {m : Int} {l : List E} {d d' : DS} {k er : Int} {key val : ByteArray}
theorem Put_K (h : KD S1 S2 B W gd g d n m l) (u : d.Up k) (hk : k < 4611686018427387904) (hl : l.length ≤ 8000) (hm : 1 ≤ m ∧ m ≤ 4096) (hsh : Short l) (hsz : key.size + val.size ≤ 274877906944) :
    Calls Try.prog 13 #[.pointer (some ⟨g, 0, none⟩), .string key, .string val] W fun e W' => e = .returned (.int .i64 (putE d n m l key val).1) ∧ ∃ S1' S2', KD S1' S2' B W' gd g (putE d n m l key val).2.1 n m (putE d n m l key val).2.2 ∧ Step (U S1 S2) W (U S1' S2') W' := by
  unfold putE
  by_cases c1 : 65536 < (recP key val).size
  · rw [if_pos c1]
    refine (Put_long W hsz c1).mono ?_
    rintro e W' ⟨rfl, hb⟩
    exact ⟨rfl, S1, S2, h.below hb, Step.same hb⟩
  rw [if_neg c1]
  by_cases c2 : getE l key = some val
  · rw [if_pos c2]
    refine (Put_same h (by omega) (by omega) c2).mono ?_
    rintro e W' ⟨rfl, hb⟩
    exact ⟨rfl, S1, S2, h.below hb, Step.same hb⟩
  rw [if_neg c2]
  have hgd := Good.of_put (m := m) (Nat.not_lt.1 c1) hsh
  have hlen : (Fr.putB (putRecs l m key val)).length ≤ 4294967296 := by
    have h1 := putB_le hgd
    have h2 := putRecs_len l m key val
    have h3 : (putRecs l m key val).length * 65544 ≤ 8001 * 65544 := Nat.mul_le_mul_right _ (by omega)
    omega
  have hl2 : l.length + l.length + 2 ≤ 1048576 := by omega
  have hap : d.append n (Fr.putB (putRecs l m key val)) = ((d.append n (Fr.putB (putRecs l m key val))).1, (d.append n (Fr.putB (putRecs l m key val))).2) := rfl
  unfold writeE
  cases hg : getE l key with
  | none =>
    by_cases c3 : (d.append n (Fr.putB (putRecs l m key val))).1 = 0
    · rw [if_pos c3]
      rw [c3] at hap ⊢
      exact Put_new_ok (l := l) h u hk (Nat.not_lt.1 c1) hl2 hm hsh hg hlen hap
    · rw [if_neg c3]
      exact Put_new_e (l := l) h u hk (Nat.not_lt.1 c1) hl2 hm hsh hg hlen hap c3
  | some old =>
    have hne : old ≠ val := fun e => c2 (by rw [hg, e])
    by_cases c3 : (d.append n (Fr.putB (putRecs l m key val))).1 = 0
    · rw [if_pos c3]
      rw [c3] at hap ⊢
      exact Put_old_ok (l := l) h u hk (Nat.not_lt.1 c1) hl2 hm hsh hg hne hlen hap
    · rw [if_neg c3]
      exact Put_old_e (l := l) h u hk (Nat.not_lt.1 c1) hl2 hm hsh hg hne hlen hap c3
end
def KN (l : List E) : Prop := (l.map (·.f0)).Nodup
theorem dropE_head (e : E) (l : List E) : dropE (e :: l) e.f0 = l := by
  have h : atE (e :: l) e.f0 = 0 := atE_of (k := 0) (by simp) (fun i h h2 => absurd h2 (Nat.not_lt_zero _)) rfl
  unfold dropE
  rw [h, if_pos (by decide)]
  rfl
theorem stepAll_gones (l : List E) (hs : Short l) : ∀ j, j ≤ l.length → stepAll l (gones l j) = l.drop j
  | 0, _ => rfl
  | j + 1, h => by
    have hj : j < l.length := h
    rw [gones_step hj]
    unfold stepAll
    rw [List.foldl_append]
    have ih := stepAll_gones l hs j (Nat.le_of_lt hj)
    unfold stepAll at ih
    rw [ih]
    show stepE (l.drop j) (recG (l[j]'hj).f0) = _
    unfold stepE
    rw [doneE_recG _ (by rw [recG_size]; have := hs _ (List.getElem_mem hj); omega), List.drop_eq_getElem_cons hj, dropE_head]
    rfl
theorem getE_none_iff {l : List E} {s : ByteArray} : getE l s = none ↔ ∀ e ∈ l, e.f0 ≠ s := by
  unfold getE
  rw [Option.map_eq_none_iff, List.find?_eq_none]
  simp
theorem atE_nonneg {l : List E} {s : ByteArray} : 0 ≤ atE l s ↔ getE l s ≠ none := by
  by_cases c : 0 ≤ atE l s
  · obtain ⟨i, hi, hil⟩ := atE_lt c
    obtain ⟨_, h, _⟩ := getE_at hi
    rw [h]
    simp [c]
  · rw [getE_no c]
    simp [c]
theorem dropE_no {l : List E} {s : ByteArray} (h : getE l s = none) : dropE l s = l := by
  unfold dropE
  rw [if_neg (fun h2 => atE_nonneg.1 h2 h)]
theorem dropE_eq {l : List E} (hn : KN l) (s : ByteArray) : dropE l s = l.filter (fun e => decide (e.f0 ≠ s)) := by
  unfold dropE
  by_cases c : 0 ≤ atE l s
  · obtain ⟨i, hi, hil⟩ := atE_lt c
    obtain ⟨_, _, hk⟩ := getE_at hi
    rw [if_pos c, hi, Int.toNat_natCast]
    have hl : l = l.take i ++ l[i] :: l.drop (i + 1) := by
      conv => lhs; rw [← List.take_append_drop i l, List.drop_eq_getElem_cons hil]
    have hn2 := hn
    unfold KN at hn2
    rw [hl, List.map_append, List.map_cons, List.nodup_append] at hn2
    obtain ⟨_, n2, n3⟩ := hn2
    rw [List.nodup_cons] at n2
    rw [List.eraseIdx_eq_take_drop_succ]
    conv => rhs; rw [hl]
    rw [List.filter_append, List.filter_cons, if_neg (by simp [hk])]
    congr 1
    · symm
      rw [List.filter_eq_self]
      intro e he
      refine decide_eq_true (fun e2 => n3 e.f0 (List.mem_map.2 ⟨e, he, rfl⟩) l[i].f0 (List.mem_cons_self ..) (by rw [hk, e2]))
    · symm
      rw [List.filter_eq_self]
      intro e he
      refine decide_eq_true (fun e2 => n2.1 (List.mem_map.2 ⟨e, he, by rw [hk, e2]⟩))
  · rw [if_neg c]
    symm
    rw [List.filter_eq_self]
    intro e he
    exact decide_eq_true (getE_none_iff.1 (getE_no c) e he)
theorem KN.drop {l : List E} (h : KN l) (s : ByteArray) : KN (dropE l s) := by
  rw [dropE_eq h]
  unfold KN at h ⊢
  exact List.Nodup.sublist (List.Sublist.map _ List.filter_sublist) h
theorem KN.put {l : List E} (h : KN l) (k u : ByteArray) : KN (dropE l k ++ [⟨k, u⟩]) := by
  have h1 := h.drop k
  unfold KN at h1 ⊢
  rw [List.map_append, List.nodup_append]
  refine ⟨h1, by simp, ?_⟩
  intro x hx y hy
  obtain ⟨e, he, rfl⟩ := List.mem_map.1 hx
  rw [dropE_eq h] at he
  have := of_decide_eq_true (List.mem_filter.1 he).2
  simp at hy
  subst hy
  exact this
theorem KN.suffix {l : List E} (h : KN l) (j : Nat) : KN (l.drop j) := by
  unfold KN at h ⊢
  exact List.Nodup.sublist (List.Sublist.map _ (List.drop_sublist j l)) h
def putL (l : List E) (m : Int) (k u : ByteArray) : List E := (if (getE l k).isSome then dropE l k else l.drop (over l m)) ++ [⟨k, u⟩]
theorem stepAll_put {l : List E} (hs : Short l) {m : Int} (hm : 1 ≤ m) {k u : ByteArray} (hok : (recP k u).size ≤ 65536) : stepAll l (putRecs l m k u) = putL l m k u := by
  unfold putRecs putL
  cases hg : getE l k with
  | some old =>
    simp only [Option.isSome_some, if_true, List.nil_append]
    show stepE l (recP k u) = _
    unfold stepE
    rw [doneE_recP l (by omega)]
    rfl
  | none =>
    simp only [Option.isSome_none, Bool.false_eq_true, if_false]
    unfold stepAll
    rw [List.foldl_append]
    have h1 := stepAll_gones l hs (over l m) (by unfold over; omega)
    unfold stepAll at h1
    rw [h1]
    show stepE (l.drop (over l m)) (recP k u) = _
    unfold stepE
    rw [doneE_recP _ (by omega), dropE_no (getE_none_iff.2 (fun e he => getE_none_iff.1 hg e (List.mem_of_mem_drop he)))]
    rfl
theorem putL_len {l : List E} {m : Int} (hm : 1 ≤ m) {k u : ByteArray} (h : (l.length : Int) ≤ m) : ((putL l m k u).length : Int) ≤ m := by
  unfold putL
  rw [List.length_append, List.length_singleton]
  split
  · rename_i c
    have hne : getE l k ≠ none := by
      intro e
      rw [e] at c
      cases c
    have hat := atE_nonneg.2 hne
    obtain ⟨i, hi, hil⟩ := atE_lt hat
    unfold dropE
    rw [if_pos hat, hi, Int.toNat_natCast, List.length_eraseIdx_of_lt hil]
    omega
  · rw [List.length_drop]
    unfold over
    omega
theorem putL_mem {l : List E} {m : Int} {k u : ByteArray} {e : E} (h : e ∈ putL l m k u) : e ∈ l ∨ e = ⟨k, u⟩ := by
  unfold putL at h
  rcases List.mem_append.1 h with h | h
  · left
    split at h
    · unfold dropE at h
      split at h
      · exact List.mem_of_mem_eraseIdx h
      · exact h
    · exact List.mem_of_mem_drop h
  · exact .inr (List.mem_singleton.1 h)
end Go.Proofs.Ytclkcipakncjkaa.Kv
