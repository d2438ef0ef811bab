/- Semicolons that aren't written: what the plain scanner tells of them, and the law's own loop over it. -/
import Derived.Test.YtfolmcfcmonkhaaDoorPAllx6
import Derived.Test.YtfolmcfcmonkhaaDoorLyB
namespace Go.Proofs.YtfolmcfcmonkhaaDoor.Fr
open Go Go.RowKit Go.Proofs.YtfolmcfcmonkhaaDoor.PAll Go.Proofs.YtfolmcfcmonkhaaDoorW.PrintWords Go.Proofs.YtfolmcfcmonkhaaDoorW.PrintLast Go.Proofs.YtfolmcfcmonkhaaDoorPw Go.Proofs.YtfolmcfcmonkhaaDoor
set_option linter.unusedVariables false
set_option linter.unusedSimpArgs false
def made (t : S27) : Prop := t.f0 = 6 ∧ t.f1.toList = ([] : List UInt8)
def endsO : Option S27 → Bool
  | none => false
  | some t => endsT t
def St (s : ByteArray) (q : Option S27) (t : S27) : Prop :=
  (made t → ∃ q', q = some q' ∧ endsT q' = true ∧ 0 ≤ t.f2 ∧ (t.f2 < (s.size : Int) → bt s t.f2 = 10 ∨ bt s t.f2 = 47)) ∧
  (∀ q', q = some q' → t.f0 = 0 → endsT q' = false) ∧
  (∀ q', q = some q' → ¬ made t → t.f0 ≠ 7 → endsT q' = true → 0 ≤ q'.f2 ∧ q'.f2 + (q'.f1.size : Int) ≤ (s.size : Int) ∧ t.f2 ≤ (s.size : Int) ∧ ∀ k : Nat, q'.f2 + (q'.f1.size : Int) ≤ (k : Int) → (k : Int) < t.f2 → bt s (k : Int) ≠ 10)
def Ch (s : ByteArray) : Option S27 → List S27 → Prop
  | _, [] => True
  | q, t :: r => St s q t ∧ Ch s (some t) r
/-- How the scanner stands at a place: the last token, and that no line feed was passed over if one asks for a semicolon. -/
def Inv (s : ByteArray) (q : Option S27) (prev : Bool) (a : Nat) : Prop :=
  prev = endsO q ∧ ∀ q', q = some q' → prev = true → 0 ≤ q'.f2 ∧ q'.f2 + (q'.f1.size : Int) ≤ (a : Int) ∧ ∀ k : Nat, q'.f2 + (q'.f1.size : Int) ≤ (k : Int) → (k : Int) < (a : Int) → bt s (k : Int) ≠ 10
theorem Inv.next {s : ByteArray} {q : Option S27} {prev : Bool} {a b : Nat} (h : Inv s q prev a) (hab : a ≤ b) (hk : prev = true → ∀ k : Nat, a ≤ k → k < b → bt s (k : Int) ≠ 10) : Inv s q prev b := by
  refine ⟨h.1, fun q' e1 e2 => ?_⟩
  obtain ⟨g1, g2, g3⟩ := h.2 q' e1 e2
  refine ⟨g1, by omega, fun k h1 h2 => ?_⟩
  by_cases c : k < a
  · exact g3 k h1 (by omega)
  · exact hk e2 k (by omega) (by omega)
theorem made_semi (a : Nat) : made ⟨6, (⟨#[]⟩ : ByteArray), (a : Int)⟩ := ⟨rfl, by rw [ba_toList]⟩
/-- A semicolon that isn't written, and what stands behind. -/
theorem ch_semi {s : ByteArray} {q : Option S27} {prev : Bool} {a : Nat} (h : Inv s q prev a) (b : Bool) (hb : b = true → prev = true) (hc : a < s.size → bt s (a : Int) = 10 ∨ bt s (a : Int) = 47) (R : List S27)
    (hR : ∀ q' : Option S27, (b = true → endsO q' = false) → (b = false → q' = q) → Ch s q' R) : Ch s q (semi b a ++ R) := by
  unfold semi
  cases b with
  | false => exact hR q (fun h => absurd h (by decide)) (fun _ => rfl)
  | true =>
    have hp := hb rfl
    cases q with
    | none => have := h.1; rw [hp] at this; exact absurd this (by decide)
    | some q' =>
      have e : endsT q' = true := by have := h.1; rw [hp] at this; exact this.symm
      exact ⟨⟨fun _ => ⟨q', rfl, e, Int.natCast_nonneg a, fun hlt => hc (by simpa using hlt)⟩, fun _ _ h0 => absurd h0 (show ¬ (6 : Int) = 0 by decide), fun _ _ hn => absurd (made_semi a) hn⟩, hR _ (fun _ => rfl) (fun h => absurd h (by decide))⟩
theorem ch_lx {s : ByteArray} : ∀ (n a : Nat) (prev : Bool) (q : Option S27), s.size - a ≤ n → a ≤ s.size → Inv s q prev a → Ch s q (lx ((bytesOf s).drop a) a prev).1
  | n, a, prev, q, hn, ha, hI => by
    have hl := bytesOf_length s
    have hb := byt_drop (byt_bytesOf s) a
    by_cases h0 : s.size ≤ a
    · rw [drop_nil h0, lx_nil]
      refine ch_semi hI prev id (fun h => absurd h (by omega)) _ (fun q' h1 h2 => ⟨⟨fun hm => absurd hm.1 (show ¬ (0 : Int) = 6 by decide), fun q2 e2 _ => ?_, fun q2 e2 _ _ e3 => ?_⟩, trivial⟩)
      · cases hp : prev with
        | true => have := h1 hp; rw [e2] at this; exact this
        | false =>
          have := h2 hp
          rw [this] at e2
          have h3 := hI.1
          rw [hp, e2] at h3
          exact h3.symm
      · exfalso
        cases hp : prev with
        | true => have := h1 hp; rw [e2] at this; rw [show endsT q2 = false from this] at e3; cases e3
        | false =>
          have := h2 hp
          rw [this] at e2
          have h3 := hI.1
          rw [hp, e2] at h3
          rw [show endsT q2 = false from h3.symm] at e3
          cases e3
    have dn : (bytesOf s).drop a ≠ [] := by rw [drop_bt (by omega)]; simp
    have l1 : ((bytesOf s).drop a).length = s.size - a := by rw [List.length_drop, hl]
    have hn' : n ≠ 0 := by omega
    obtain ⟨m, rfl⟩ := Nat.exists_eq_succ_of_ne_zero hn'
    cases e : Fr.next ((bytesOf s).drop a) with
    | bad o =>
      rw [lx_bad dn _ _ e]
      exact ⟨⟨fun hm => absurd hm.1 (show ¬ (7 : Int) = 6 by decide), fun _ _ h => absurd h (show ¬ (7 : Int) = 0 by decide), fun _ _ _ h => absurd rfl h⟩, trivial⟩
    | blank =>
      rw [lx_blank dn _ _ e, List.drop_drop]
      refine ch_lx m (a + 1) prev q (by omega) (by omega) (hI.next (by omega) (fun _ k h1 h2 => ?_))
      have : k = a := by omega
      subst this
      rcases blank_inv e with h | h | h
      · rw [head_bt (by omega) h (by decide)]; decide
      · rw [head_bt (by omega) h (by decide)]; decide
      · rw [head_bt (by omega) h (by decide)]; decide
    | feed =>
      rw [lx_feed dn _ _ e, List.drop_drop]
      refine ch_semi hI prev id (fun h => .inl (head_bt h (feed_inv e) (by decide))) _ (fun q' h1 h2 => ch_lx m (a + 1) false q' (by omega) (by omega) ⟨?_, fun _ _ h => absurd h (by decide)⟩)
      cases hp : prev with
      | true => exact (h1 hp).symm
      | false => rw [h2 hp, ← hI.1, hp]
    | note k f =>
      have sz := note_size hb e
      have nf := note_feed hb e
      rw [lx_note dn _ _ (by omega) e, List.drop_drop]
      refine ch_semi hI (prev && f) (fun h => by simp at h; exact h.1) (fun h => .inr ?_) _ (fun q' h1 h2 => ch_lx m (a + k) (prev && !f) q' (by omega) (by omega) ?_)
      · have := nf.1
        rw [drop_bt h] at this
        exact this
      · cases f with
        | true =>
          rw [Bool.and_true] at h1 h2
          refine ⟨?_, fun _ _ h => absurd h (by simp)⟩
          cases hp : prev with
          | true => rw [h1 hp]; rfl
          | false => rw [h2 hp, ← hI.1, hp]; rfl
        | false =>
          rw [Bool.and_false] at h2
          rw [h2 rfl]
          have e2 : (prev && !false) = prev := by simp
          rw [e2]
          refine hI.next (by omega) (fun _ j h3 h4 => ?_)
          refine take_bt (a := a) (n := k) ?_ j h3 h4 (by omega)
          have := nf.2
          rw [eq_comm, decide_eq_false_iff_not] at this
          exact this
    | tok kd k =>
      have sz := tok_size hb e
      rw [lx_tok dn _ _ (by omega) e, List.drop_drop]
      have ss : (strOfNums (((bytesOf s).drop a).take k)).size = k := by rw [str_size (byt_take hb k), List.length_take]; omega
      refine ⟨⟨fun hm => ?_, fun q' e2 h => ?_, fun q' e2 _ _ e3 => ?_⟩, ch_lx m (a + k) _ _ (by omega) (by omega) ⟨rfl, fun q' e2 _ => ?_⟩⟩
      · exact absurd hm.2 (str_ne (by intro h; have := congrArg List.length h; rw [List.length_take] at this; simp at this; omega))
      · exfalso
        have h : kd = 0 := h
        have ti := (tok_inv hb e).2.2.2.2.2
        rcases ti with ⟨g, _⟩ | ⟨_, g, _⟩ | ⟨_, _, ⟨_, g⟩ | ⟨_, g⟩ | ⟨_, g⟩ | ⟨_, g, _⟩ | ⟨_, _, _, _, g, _⟩⟩
        · omega
        · omega
        · have := (qt_inv hb g).1; omega
        · have := (qt_inv hb g).1; omega
        · have := (qt_inv hb g).1; omega
        · omega
        · omega
      · have hp : prev = true := by rw [hI.1, e2]; exact e3
        obtain ⟨g1, g2, g3⟩ := hI.2 q' e2 hp
        exact ⟨g1, by omega, by show (a : Int) ≤ _; omega, g3⟩
      · cases e2
        refine ⟨Int.natCast_nonneg a, ?_, fun j h1 h2 => ?_⟩
        · show (a : Int) + ((strOfNums (((bytesOf s).drop a).take k)).size : Int) ≤ _
          rw [ss]; omega
        · exfalso
          have h1 : (a : Int) + ((strOfNums (((bytesOf s).drop a).take k)).size : Int) ≤ (j : Int) := h1
          rw [ss] at h1
          omega
theorem ch_lexB (s : ByteArray) : Ch s none (lexB s).1 := by
  have hk := skp_le (bytesOf s)
  rw [bytesOf_length] at hk
  exact ch_lx _ _ _ _ (Nat.le_refl _) hk.1 ⟨rfl, fun _ h => by cases h⟩
theorem ch_at {s : ByteArray} : ∀ (T : List S27) (q : Option S27) (j : Nat), Ch s q T → j < T.length → St s (if j = 0 then q else some (rd_T27 T ((j - 1 : Nat) : Int))) (rd_T27 T (j : Int))
  | t :: T, q, 0, h, hj => h.1
  | t :: T, q, j + 1, h, hj => by
    have ih := ch_at T (some t) j h.2 (by simpa using hj)
    have e1 : rd_T27 (t :: T) ((j + 1 : Nat) : Int) = rd_T27 T (j : Int) := by
      unfold rd_T27
      rw [Int.toNat_natCast, Int.toNat_natCast, List.getD_cons_succ]
    rw [e1, if_neg (by omega), Nat.add_sub_cancel]
    cases j with
    | zero => exact ih
    | succ j =>
      rw [if_neg (by omega), Nat.add_sub_cancel] at ih
      have e2 : rd_T27 (t :: T) ((j + 1 : Nat) : Int) = rd_T27 T (j : Int) := by
        unfold rd_T27
        rw [Int.toNat_natCast, Int.toNat_natCast, List.getD_cons_succ]
      rw [e2]
      exact ih
end Go.Proofs.YtfolmcfcmonkhaaDoor.Fr
