/- What the parser of expr computes, on lists of bytes; its blanks and takes told so. -/
import Derived.Test.YtcpemjolabofnaaExB
import Derived.Test.YtcpemjolabofnaaPAllx1
import Derived.Test.YtcpemjolabofnaaPw
namespace Go.Proofs.Ytcpemjolabofnaa.PAll
open Go Go.RowKit Go.Proofs.YtcpemjolabofnaaW.PrintWords Go.Proofs.YtcpemjolabofnaaW.PrintLast Go.Proofs.YtcpemjolabofnaaW.PrintMore Go.Proofs.YtcpemjolabofnaaMy Go.Proofs.Ytcpemjolabofnaa Go.Proofs.YtcpemjolabofnaaPw
set_option linter.unusedVariables false
set_option linter.unusedSimpArgs false
/-- A blank. -/
def isB (c : Int) : Bool := c == 32 || c == 9
/-- A sign of a tag. -/
def isT (c : Int) : Bool := decide (97 ≤ c ∧ c ≤ 122) || decide (65 ≤ c ∧ c ≤ 90) || decide (48 ≤ c ∧ c ≤ 57) || c == 95 || c == 46
def dropB (l : List Int) : List Int := l.dropWhile isB
/-- A sign is taken in, if it stands here, behind blanks. -/
def tk (sg l : List Int) : Bool × List Int := if sg.isPrefixOf (dropB l) then (true, (dropB l).drop sg.length) else (false, dropB l)
abbrev St := List Int × List ByteArray × Int
/-- Behind some blanks. -/
theorem blanks_ev (s : ByteArray) (hs : s.size ≤ 4294967296) (O : List ByteArray) (d : Int) : ∀ (m p : Nat), s.size - p = m → p ≤ s.size → ∃ q : Nat, p ≤ q ∧ q ≤ s.size ∧ dropB ((bytesOf s).drop p) = (bytesOf s).drop q ∧ Ev (fun k => expr_parser_blanks.l0 k s (p : Int) O d) (s, (q : Int), O, d)
  | 0, p, hm, hp => by
    have e : p = s.size := by omega
    subst e
    refine ⟨s.size, Nat.le_refl _, Nat.le_refl _, ?_, 1, fun k hk => ?_⟩
    · have : (bytesOf s).drop s.size = [] := List.drop_of_length_le (by rw [bytesOf_length]; exact Nat.le_refl _)
      rw [this]
      rfl
    · cases k with
      | zero => omega
      | succ k =>
        simp only [expr_parser_blanks.l0]
        rw [if_neg (by omega)]
  | m + 1, p, hm, hp => by
    have hlt : p < s.size := by omega
    have hd := drop_bytes s p hlt
    have hw : wrap64 ((p : Int) + 1) = ((p + 1 : Nat) : Int) := by rw [w64 (by omega) (by omega)]; omega
    by_cases hb : bt s p = 32 ∨ bt s p = 9
    · obtain ⟨q, h1, h2, h3, K, hK⟩ := blanks_ev s hs O d m (p + 1) (by omega) (by omega)
      refine ⟨q, by omega, h2, ?_, K + 1, fun k hk => ?_⟩
      · rw [hd, ← h3]
        have : isB (bt s p) = true := by rcases hb with h | h <;> simp [isB, h]
        simp [dropB, this]
      · cases k with
        | zero => omega
        | succ k =>
          have e := hK k (by omega)
          simp only [expr_parser_blanks.l0]
          rw [if_pos (by omega), if_pos (by omega), hw]
          rcases hb with h | h
          · rw [if_pos h]
            exact e
          · rw [if_neg (by omega), if_pos h]
            exact e
    · refine ⟨p, Nat.le_refl _, hp, ?_, 1, fun k hk => ?_⟩
      · rw [hd]
        have : isB (bt s p) = false := by
          simp only [isB, Bool.or_eq_false_iff, beq_eq_false_iff_ne]
          omega
        simp [dropB, this]
      · cases k with
        | zero => omega
        | succ k =>
          simp only [expr_parser_blanks.l0]
          rw [if_pos (by omega), if_pos (by omega), if_neg (by omega), if_neg (by omega)]
theorem takes_ev (s : ByteArray) (hs : s.size ≤ 4294967296) (a : ByteArray) (ha : a.size ≤ 4294967296) (O : List ByteArray) (d : Int) (p : Nat) (hp : p ≤ s.size) :
    ∃ q : Nat, q ≤ s.size ∧ (tk (bytesOf a) ((bytesOf s).drop p)).2 = (bytesOf s).drop q ∧ Ev (fun k => expr_parser_takes.f k s (p : Int) O d a) ((tk (bytesOf a) ((bytesOf s).drop p)).1, s, (q : Int), O, d) := by
  obtain ⟨q, h1, h2, h3, K, hK⟩ := blanks_ev s hs O d _ p rfl hp
  have hl : ((bytesOf s).drop q).length = s.size - q := by rw [List.length_drop, bytesOf_length]
  have hw1 : wrap64 ((s.size : Int) - (q : Int)) = (s.size : Int) - q := w64 (by omega) (by omega)
  have hw2 : wrap64 ((q : Int) + (a.size : Int)) = ((q + a.size : Nat) : Int) := by rw [w64 (by omega) (by omega)]; omega
  unfold tk
  rw [h3]
  by_cases hlen : s.size - q < a.size
  · have hn : (bytesOf a).isPrefixOf ((bytesOf s).drop q) = false := by
      rw [Bool.eq_false_iff]
      intro h
      have := (List.isPrefixOf_iff_prefix.1 h).length_le
      rw [hl, bytesOf_length] at this
      omega
    rw [hn]
    refine ⟨q, h2, rfl, K, fun k hk => ?_⟩
    simp only [expr_parser_takes.f, expr_parser_blanks.f, hK k hk, Option.bind_some]
    rw [hw1, if_pos (by omega)]
    rfl
  · have hex : ((s.extract q (q + a.size)).toList = a.toList) ↔ (bytesOf a).isPrefixOf ((bytesOf s).drop q) = true := by
      rw [ba_iff, List.isPrefixOf_iff_prefix]
      constructor
      · intro e
        have := congrArg bytesOf e
        rw [bytesOf_extract, List.drop_take] at this
        rw [← this]
        exact List.take_prefix _ _
      · intro h
        apply bytes_inj
        rw [bytesOf_extract, List.drop_take]
        have := List.prefix_iff_eq_take.1 h
        rw [bytesOf_length] at this
        rw [this]
        congr 1
        omega
    by_cases hx : (bytesOf a).isPrefixOf ((bytesOf s).drop q) = true
    · rw [hx]
      refine ⟨q + a.size, by omega, ?_, K, fun k hk => ?_⟩
      · simp [bytesOf_length, List.drop_drop]
      · simp only [expr_parser_takes.f, expr_parser_blanks.f, hK k hk, Option.bind_some]
        rw [hw1, hw2, if_neg (by omega), if_pos (by omega), if_pos (by omega), if_pos (by omega), if_pos (by simp only [Int.toNat_natCast]; exact hex.2 hx)]
        rfl
    · rw [Bool.eq_false_iff.2 hx]
      refine ⟨q, h2, rfl, K, fun k hk => ?_⟩
      simp only [expr_parser_takes.f, expr_parser_blanks.f, hK k hk, Option.bind_some]
      rw [hw1, hw2, if_neg (by omega), if_pos (by omega), if_pos (by omega), if_pos (by omega), if_neg (by simp only [Int.toNat_natCast]; exact fun h => hx (hex.1 h))]
      rfl
/-- The parser at block g: of the text s the bytes l are left. -/
def IsP (w0 W : World) (g : Nat) (s : ByteArray) (l : List Int) (O : List ByteArray) (d : Int) : Prop := ∃ p : Nat, p ≤ s.size ∧ l = (bytesOf s).drop p ∧ IsS42 w0 W g s (p : Int) O d
theorem IsP.below {w0 W W1 : World} {g : Nat} {s : ByteArray} {l : List Int} {O : List ByteArray} {d : Int} (h : IsP w0 W g s l O d) (hb : Below W.heap.size W W1) : IsP w0 W1 g s l O d := by
  obtain ⟨p, h1, h2, h3⟩ := h
  exact ⟨p, h1, h2, h3.below hb⟩
theorem blanks_P (g : Nat) (s : ByteArray) (hs : s.size ≤ 4294967296) (l : List Int) (O : List ByteArray) (d : Int) (w0 w : World) (hI : IsP w0 w g s l O d) (hB : Below w0.heap.size w0 w) :
    Calls Try.prog 20 #[.pointer (some ⟨g, 0, none⟩)] w fun e w' => e = .returned (.tuple #[]) ∧ IsP w0 w' g s (dropB l) O d ∧ Below w0.heap.size w0 w' := by
  obtain ⟨p, h1, rfl, h3⟩ := hI
  obtain ⟨q, _, h4, h5, K, hK⟩ := blanks_ev s hs O d _ p rfl h1
  refine (expr_parser_blanks.calls K g s p O d s q O d w0 w h3 hB (hK K (Nat.le_refl _))).mono ?_
  rintro e w' ⟨e1, e2, e3, _⟩
  exact ⟨e1, ⟨q, h4, h5, e2⟩, e3⟩
theorem takes_P (g : Nat) (s : ByteArray) (hs : s.size ≤ 4294967296) (a : ByteArray) (ha : a.size ≤ 4294967296) (l : List Int) (O : List ByteArray) (d : Int) (w0 w : World) (hI : IsP w0 w g s l O d) (hB : Below w0.heap.size w0 w) :
    Calls Try.prog 34 #[.pointer (some ⟨g, 0, none⟩), .string a] w fun e w' => e = .returned (.bool (tk (bytesOf a) l).1) ∧ IsP w0 w' g s (tk (bytesOf a) l).2 O d ∧ Below w0.heap.size w0 w' := by
  obtain ⟨p, h1, rfl, h3⟩ := hI
  obtain ⟨q, h4, h5, K, hK⟩ := takes_ev s hs a ha O d p h1
  refine (expr_parser_takes.calls K g s p O d a _ s q O d w0 w h3 hB (hK K (Nat.le_refl _))).mono ?_
  rintro e w' ⟨e1, e2, e3, _⟩
  exact ⟨e1, ⟨q, h4, h5, e2⟩, e3⟩
end Go.Proofs.Ytcpemjolabofnaa.PAll
