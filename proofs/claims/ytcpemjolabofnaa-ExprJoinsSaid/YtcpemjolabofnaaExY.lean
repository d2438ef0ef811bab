/- Laws of constraints, common to the statements: what is alive; texts in brackets and behind one another. -/
import Derived.Test.YtcpemjolabofnaaExX
import Derived.Test.YtcpemjolabofnaaSame
import Derived.Test.YtcpemjolabofnaaPAllxAlive
namespace Go.Proofs.Ytcpemjolabofnaa.Fr
open Go Go.RowKit Go.Proofs.Ytcpemjolabofnaa.PAll Go.Proofs.YtcpemjolabofnaaW.PrintWords Go.Proofs.YtcpemjolabofnaaW.PrintLast Go.Proofs.YtcpemjolabofnaaPw
set_option linter.unusedVariables false
set_option linter.unusedSimpArgs false
theorem alive_ev : Ev (fun k => seichelaw13_alive.f k) true := by
  have h : expr_Parse.f (⟨#[97, 32, 124, 124, 32, 33, 98, 32, 38, 38, 32, 99]⟩ : ByteArray) = some ([(⟨#[97]⟩ : ByteArray), (⟨#[98]⟩ : ByteArray), (⟨#[33]⟩ : ByteArray), (⟨#[99]⟩ : ByteArray), (⟨#[38, 38]⟩ : ByteArray), (⟨#[124, 124]⟩ : ByteArray)], 0) := by kernel_rfl
  unfold seichelaw13_alive.f
  simp only [h, Option.bind_some]
  have hs := same_ev [(⟨#[97]⟩ : ByteArray), (⟨#[98]⟩ : ByteArray), (⟨#[33]⟩ : ByteArray), (⟨#[99]⟩ : ByteArray), (⟨#[38, 38]⟩ : ByteArray), (⟨#[124, 124]⟩ : ByteArray)] [(⟨#[97]⟩ : ByteArray), (⟨#[98]⟩ : ByteArray), (⟨#[33]⟩ : ByteArray), (⟨#[99]⟩ : ByteArray), (⟨#[38, 38]⟩ : ByteArray), (⟨#[124, 124]⟩ : ByteArray)] (by decide)
  rw [decide_eq_true rfl] at hs
  exact ev_pos trivial (ev_call hs (Ev.now _))
/-- A list of texts is the same as itself. -/
theorem same_self (X : List ByteArray) (h : X.length ≤ 4294967296) : Ev (fun k => seicheref01_Same.f k X X) true := by
  have hs := same_ev X X (by omega)
  rw [decide_eq_true rfl] at hs
  exact hs
/-- What is parsed is read whole. -/
theorem parse_ok {s : ByteArray} {X : List ByteArray} (h : expr_Parse.f s = some (X, 0)) : s.size ≤ 1024 ∧ ∃ d1, rorF 2000 70 (pcsS s, [], 0) = some (0, [], X, d1) := by
  obtain ⟨r, h1, h2, _⟩ := parse_same s
  rw [h] at h1
  obtain rfl := Option.some.inj h1
  unfold seicheref13_Parse.f at h2
  by_cases c : 1024 < s.size
  · rw [if_pos c] at h2
    simp at h2
  · rw [if_neg c] at h2
    obtain ⟨⟨e, L, O, d⟩, h3, h2⟩ := Option.bind_eq_some_iff.mp h2
    simp only at h2
    by_cases c2 : e = 0
    · rw [if_pos c2] at h2
      by_cases c3 : L = []
      · rw [if_pos c3] at h2
        simp only [Option.some.injEq, Prod.mk.injEq, and_true] at h2
        subst c2 c3 h2
        exact ⟨by omega, d, h3⟩
      · rw [if_neg c3] at h2
        simp at h2
    · rw [if_neg c2] at h2
      simp only [Option.some.injEq, Prod.mk.injEq] at h2
      exact absurd h2.2 c2
theorem parse_of {s : ByteArray} (hs : s.size ≤ 1024) {e : Int} {L O : List ByteArray} {d : Int} (h : rorF 2000 70 (pcsS s, [], 0) = some (e, L, O, d)) : expr_Parse.f s = some (if e = 0 then (if L = [] then (O, 0) else ([], 4)) else ([], e)) := by
  obtain ⟨r, h1, h2, _⟩ := parse_same s
  rw [h1, ← h2]
  unfold seicheref13_Parse.f
  rw [if_neg (by omega), h]
  simp only [Option.bind_some]
  by_cases c2 : e = 0
  · rw [if_pos c2, if_pos c2]
    by_cases c3 : L = []
    · rw [if_pos c3, if_pos c3]
    · rw [if_neg c3, if_neg c3]
  · rw [if_neg c2, if_neg c2]
theorem parse_val {s : ByteArray} {X : List ByteArray} (h : expr_Parse.f s = some (X, 0)) (on : List ByteArray) : X.length ≤ 1024 ∧ ∃ v, Val on X v := by
  obtain ⟨r, h1, _, hl⟩ := parse_same s
  rw [h] at h1
  obtain rfl := Option.some.inj h1
  obtain ⟨_, d1, h2⟩ := parse_ok h
  obtain ⟨_, _, _, Y, e, _, hv⟩ := s1_or 2000 70 0 _ _ _ _ _ h2
  rw [List.nil_append] at e
  rw [e]
  exact ⟨by rw [← e]; exact hl, hv on⟩
theorem val_eval {on X : List ByteArray} {v : Bool} (h : Val on X v) : evL on X [] = (v, 0) := by
  have := h [] []
  rw [List.append_nil] at this
  rw [this]
  rfl
/-- Eval of what was parsed. -/
theorem eval_f {on X : List ByteArray} (h1 : X.length ≤ 1024) (h2 : on.length ≤ 4294967296) (h3 : ∀ x ∈ X, x.size ≤ 140737488351232) {v : Bool} (h : Val on X v) : expr_Eval.f X on = some (v, 0) := by
  unfold expr_Eval.f
  rw [if_pos ⟨by omega, h2, h3⟩, val_eval h]
/-! The parts that are read are no longer than what stood there. -/
def Small (R : Rt → Option (Int × Rt)) : Prop := ∀ (L O L1 O1 : List ByteArray) (d e d1 : Int), (∀ x ∈ L, x.size ≤ 4096) → (∀ x ∈ O, x.size ≤ 4096) → R (L, O, d) = some (e, L1, O1, d1) → (∀ x ∈ L1, x.size ≤ 4096) ∧ ∀ x ∈ O1, x.size ≤ 4096
theorem small_rtk {a : ByteArray} {L T : List ByteArray} {b : Bool} (h : rtk a L = (b, T)) (hL : ∀ x ∈ L, x.size ≤ 4096) : ∀ x ∈ T, x.size ≤ 4096 := by
  rcases rtk_cases h with ⟨rfl, rfl⟩ | ⟨rfl, rfl, _⟩
  · exact fun x hx => hL x (List.mem_cons_of_mem _ hx)
  · exact hL
theorem small_snoc {O : List ByteArray} {y : ByteArray} (hO : ∀ x ∈ O, x.size ≤ 4096) (hy : y.size ≤ 4096) : ∀ x ∈ O ++ [y], x.size ≤ 4096 := fun x hx => by
  rcases List.mem_append.1 hx with h | h
  · exact hO x h
  · rw [List.mem_singleton.1 h]; exact hy
theorem small_part (RG : Rt → Option (Int × Rt)) (hG : Small RG) : Small (rpartG RG) := by
  intro L O L1 O1 d e d1 hL hO h
  obtain ⟨b, T, ht⟩ : ∃ b T, rtk sOpen L = (b, T) := ⟨_, _, rfl⟩
  have hT := small_rtk ht hL
  unfold rpartG at h
  simp only [ht] at h
  cases b with
  | true =>
    simp only [↓reduceIte] at h
    split at h
    · split at h
      · simp only [Option.some.injEq, Prod.mk.injEq] at h
        obtain ⟨_, rfl, rfl, _⟩ := h
        exact ⟨hT, hO⟩
      · obtain ⟨⟨e2, L2, O2, d2⟩, h2, h⟩ := Option.bind_eq_some_iff.mp h
        obtain ⟨k1, k2⟩ := hG _ _ _ _ _ _ _ hT hO h2
        simp only at h
        split at h
        · split at h
          · obtain ⟨b3, T3, ht3⟩ : ∃ b T, rtk sShut L2 = (b, T) := ⟨_, _, rfl⟩
            have hT3 := small_rtk ht3 k1
            simp only [ht3] at h
            cases b3 with
            | true =>
              simp only [↓reduceIte, Option.some.injEq, Prod.mk.injEq] at h
              obtain ⟨_, rfl, rfl, _⟩ := h
              exact ⟨hT3, k2⟩
            | false =>
              simp only [Bool.false_eq_true, ↓reduceIte, Option.some.injEq, Prod.mk.injEq] at h
              obtain ⟨_, rfl, rfl, _⟩ := h
              exact ⟨hT3, k2⟩
          · cases h
        · simp only [Option.some.injEq, Prod.mk.injEq] at h
          obtain ⟨_, rfl, rfl, _⟩ := h
          exact ⟨k1, k2⟩
    · cases h
  | false =>
    simp only [Bool.false_eq_true, ↓reduceIte] at h
    cases T with
    | nil =>
      simp only [Option.some.injEq, Prod.mk.injEq] at h
      obtain ⟨_, rfl, rfl, _⟩ := h
      exact ⟨(fun x hx => by cases hx), hO⟩
    | cons y t =>
      simp only at h
      split at h
      · split at h
        · split at h
          · simp only [Option.some.injEq, Prod.mk.injEq] at h
            obtain ⟨_, rfl, rfl, _⟩ := h
            exact ⟨fun x hx => hT x (List.mem_cons_of_mem _ hx), small_snoc hO (hT y List.mem_cons_self)⟩
          · cases h
        · simp only [Option.some.injEq, Prod.mk.injEq] at h
          obtain ⟨_, rfl, rfl, _⟩ := h
          exact ⟨hT, hO⟩
      · cases h
theorem small_not (R : Rt → Option (Int × Rt)) (hR : Small R) : Small (rnotF R) := by
  intro L O L1 O1 d e d1 hL hO h
  obtain ⟨b, T, ht⟩ : ∃ b T, rtk sNot L = (b, T) := ⟨_, _, rfl⟩
  have hT := small_rtk ht hL
  unfold rnotF at h
  simp only [ht] at h
  obtain ⟨⟨e2, L2, O2, d2⟩, h2, h⟩ := Option.bind_eq_some_iff.mp h
  obtain ⟨k1, k2⟩ := hR _ _ _ _ _ _ _ hT hO h2
  simp only at h
  split at h
  · split at h
    · simp only [Option.some.injEq, Prod.mk.injEq] at h
      obtain ⟨_, rfl, rfl, _⟩ := h
      exact ⟨k1, small_snoc k2 (by decide)⟩
    · cases h
  · simp only [Option.some.injEq, Prod.mk.injEq] at h
    obtain ⟨_, rfl, rfl, _⟩ := h
    exact ⟨k1, k2⟩
theorem small_loop (sg : ByteArray) (hsg : sg.size ≤ 4096) (R : Rt → Option (Int × Rt)) (hR : Small R) : ∀ (k : Nat) (e0 : Int) (L O L1 O1 : List ByteArray) (d e d1 : Int), (∀ x ∈ L, x.size ≤ 4096) → (∀ x ∈ O, x.size ≤ 4096) → rlistL sg R k e0 (L, O, d) = some (e, L1, O1, d1) → (∀ x ∈ L1, x.size ≤ 4096) ∧ ∀ x ∈ O1, x.size ≤ 4096
  | 0, e0, L, O, L1, O1, d, e, d1, hL, hO, h => by simp [rlistL] at h
  | k + 1, e0, L, O, L1, O1, d, e, d1, hL, hO, h => by
    obtain ⟨b, T, ht⟩ : ∃ b T, rtk sg L = (b, T) := ⟨_, _, rfl⟩
    have hT := small_rtk ht hL
    simp only [rlistL, ht] at h
    split at h
    · split at h
      · obtain ⟨⟨e2, L2, O2, d2⟩, h2, h⟩ := Option.bind_eq_some_iff.mp h
        obtain ⟨k1, k2⟩ := hR _ _ _ _ _ _ _ hT hO h2
        simp only at h
        split at h
        · exact small_loop sg hsg R hR k _ _ _ _ _ _ _ _ k1 (small_snoc k2 hsg) h
        · cases h
      · simp only [Option.some.injEq, Prod.mk.injEq] at h
        obtain ⟨_, rfl, rfl, _⟩ := h
        exact ⟨hT, hO⟩
    · simp only [Option.some.injEq, Prod.mk.injEq] at h
      obtain ⟨_, rfl, rfl, _⟩ := h
      exact ⟨hL, hO⟩
theorem small_list (sg : ByteArray) (hsg : sg.size ≤ 4096) (R : Rt → Option (Int × Rt)) (hR : Small R) (m : Nat) : Small (rlistF sg R m) := by
  intro L O L1 O1 d e d1 hL hO h
  unfold rlistF at h
  obtain ⟨⟨e2, L2, O2, d2⟩, h2, h⟩ := Option.bind_eq_some_iff.mp h
  obtain ⟨k1, k2⟩ := hR _ _ _ _ _ _ _ hL hO h2
  exact small_loop sg hsg R hR m _ _ _ _ _ _ _ _ k1 k2 h
theorem small_all (m : Nat) : ∀ n, Small (rpartF m n)
  | 0 => fun L O L1 O1 d e d1 hL hO h => by simp [rpartF] at h
  | n + 1 => small_part _ (small_list sOr (by decide) _ (small_list sAnd (by decide) _ (small_not _ (small_all m n)) m) m)
theorem small_or (m n : Nat) : Small (rorF m n) := small_list sOr (by decide) _ (small_list sAnd (by decide) _ (small_not _ (small_all m n)) m) m
theorem pcsN_small : ∀ (k : Nat) (l : List Int) (B : Nat), l.length ≤ B → 2 ≤ B → ∀ p ∈ pcsN k l, p.length ≤ B
  | 0, l, B, h, hB, p, hp => by simp [pcsN] at hp
  | k + 1, [], B, h, hB, p, hp => by simp [pcsN] at hp
  | k + 1, c :: l, B, h, hB, p, hp => by
    simp only [List.length_cons] at h
    simp only [pcsN] at hp
    split at hp
    · exact pcsN_small k l B (by omega) hB p hp
    · split at hp
      · next t =>
        have h2 : ((c :: l).dropWhile isT).length ≤ l.length := by rw [List.dropWhile_cons, if_pos t]; exact dw_len l
        rcases List.mem_cons.1 hp with rfl | hp
        · have := (List.takeWhile_prefix isT (l := c :: l)).length_le
          simp only [List.length_cons] at this
          omega
        · exact pcsN_small k _ B (by omega) hB p hp
      · split at hp
        · rcases List.mem_cons.1 hp with rfl | hp
          · simp; omega
          · exact pcsN_small k l B (by omega) hB p hp
        · split at hp
          · rcases List.mem_cons.1 hp with rfl | hp
            · simpa using hB
            · exact pcsN_small k _ B (by simp; omega) hB p hp
          · rw [List.mem_singleton.1 hp]
            simp
theorem pcsS_small (s : ByteArray) (hs : s.size ≤ 4096) : ∀ x ∈ pcsS s, x.size ≤ 4096 := by
  intro x hx
  obtain ⟨p, hp, rfl⟩ := List.mem_map.1 hx
  rw [← bytesOf_length, bytes_str (pcs_byt (byt_bytesOf s) p hp)]
  exact pcsN_small _ _ 4096 (by rw [bytesOf_length]; exact hs) (by omega) p hp
theorem parse_small {s : ByteArray} {X : List ByteArray} (h : expr_Parse.f s = some (X, 0)) : ∀ x ∈ X, x.size ≤ 140737488351232 := by
  obtain ⟨hs, d1, h2⟩ := parse_ok h
  have := (small_or 2000 70 _ _ _ _ _ _ _ (pcsS_small s (by omega)) (fun x hx => by cases hx) h2).2
  exact fun x hx => Nat.le_trans (this x hx) (by omega)
/-! Texts behind one another. -/
theorem tw_append (b : List Int) (hb : b = [] ∨ ∃ c r, b = c :: r ∧ isT c = false) : ∀ a : List Int, (a ++ b).takeWhile isT = a.takeWhile isT ∧ (a ++ b).dropWhile isT = a.dropWhile isT ++ b
  | [] => by
    rcases hb with rfl | ⟨c, r, rfl, hc⟩
    · exact ⟨rfl, rfl⟩
    · simp only [List.nil_append, List.takeWhile_nil, List.dropWhile_nil]
      rw [List.takeWhile_cons, List.dropWhile_cons, if_neg (by rw [hc]; simp), if_neg (by rw [hc]; simp)]
      exact ⟨rfl, rfl⟩
  | x :: a => by
    obtain ⟨h1, h2⟩ := tw_append b hb a
    simp only [List.cons_append, List.takeWhile_cons, List.dropWhile_cons]
    by_cases t : isT x = true
    · rw [if_pos t, if_pos t, if_pos t, if_pos t, h1, h2]
      exact ⟨rfl, rfl⟩
    · rw [if_neg t, if_neg t, if_neg t, if_neg t]
      exact ⟨rfl, rfl⟩
theorem pcs_append (b : List Int) (hb : b = [] ∨ ∃ c r, b = c :: r ∧ isT c = false) : ∀ (n : Nat) (a : List Int), a.length ≤ n → [] ∉ pcs a → pcs (a ++ b) = pcs a ++ pcs b
  | n, [], _, _ => rfl
  | 0, c :: a, h, _ => by simp at h
  | n + 1, c :: a, h, hn => by
    simp only [List.length_cons] at h
    have ih := pcs_append b hb n
    rw [pcs_cons] at hn
    have hd : isT c = true → ((c :: a).dropWhile isT).length ≤ n := fun t => by
      rw [List.dropWhile_cons, if_pos t]
      have := dw_len a
      omega
    obtain ⟨h1, h2⟩ := tw_append b hb (c :: a)
    rw [List.cons_append, pcs_cons, pcs_cons]
    by_cases b1 : isB c = true
    · rw [if_pos b1] at hn ⊢
      rw [if_pos b1]
      exact ih a (by omega) hn
    · rw [if_neg b1] at hn ⊢
      rw [if_neg b1]
      by_cases t : isT c = true
      · rw [if_pos t] at hn ⊢
        rw [if_pos t, ← List.cons_append, h1, h2, ih _ (hd t) (fun e => hn (List.mem_cons_of_mem _ e))]
        rfl
      · rw [if_neg t] at hn ⊢
        rw [if_neg t]
        by_cases s : c = 33 ∨ c = 40 ∨ c = 41
        · rw [if_pos s] at hn ⊢
          rw [if_pos s, ih a (by omega) (fun e => hn (List.mem_cons_of_mem _ e))]
          rfl
        · rw [if_neg s] at hn ⊢
          rw [if_neg s]
          by_cases w : (c = 38 ∨ c = 124) ∧ a.head? = some c
          · rw [if_pos w] at hn ⊢
            cases a with
            | nil => exact absurd w.2 (by simp)
            | cons x r =>
              simp only [List.length_cons] at h
              have hw2 : ((x :: r) ++ b).head? = some c := w.2
              rw [if_pos ⟨w.1, hw2⟩]
              simp only [List.cons_append, List.tail_cons] at hn ⊢
              rw [ih r (by omega) (fun e => hn (List.mem_cons_of_mem _ e))]
          · rw [if_neg w] at hn
            exact absurd (List.mem_singleton.2 rfl) hn
theorem parse_noE {s : ByteArray} {X : List ByteArray} (h : expr_Parse.f s = some (X, 0)) : [] ∉ pcs (bytesOf s) := by
  obtain ⟨hs, d1, h2⟩ := parse_ok h
  intro e
  have := (s1_or 2000 70 0 _ _ _ _ _ h2).2.2.1 (List.mem_map.2 ⟨[], e, rfl⟩)
  cases this
/-- Behind a text that is parsed. -/
theorem pcsS_append {s : ByteArray} {X : List ByteArray} (h : expr_Parse.f s = some (X, 0)) (t : ByteArray) (ht : bytesOf t = [] ∨ ∃ c r, bytesOf t = c :: r ∧ isT c = false) : pcsS (s ++ t) = pcsS s ++ pcsS t := by
  unfold pcsS
  rw [bytesOf_append, pcs_append _ ht _ _ (Nat.le_refl _) (parse_noE h), List.map_append]
/-- A sign, and then a text. -/
theorem pcsS_cons (a : ByteArray) (x : Int) (ha : bytesOf a = [x]) (hx : x = 33 ∨ x = 40 ∨ x = 41) (t : ByteArray) : pcsS (a ++ t) = a :: pcsS t := by
  unfold pcsS
  rw [bytesOf_append, ha, List.singleton_append, pcs_cons]
  have h1 : isB x = false := by rcases hx with rfl | rfl | rfl <;> rfl
  have h2 : isT x = false := by rcases hx with rfl | rfl | rfl <;> rfl
  rw [if_neg (by rw [h1]; simp), if_neg (by rw [h2]; simp), if_pos hx, List.map_cons, ← ha, str_bytes]
/-! What stands in brackets, as one part. -/
def PartOK (A X : List ByteArray) : Prop := ∀ K O0, O0.length + (A ++ K).length ≤ 8192 → rpartF 2000 70 (A ++ K, O0, 0) = some (0, K, O0 ++ X, 0)
def Part8 (A : List ByteArray) : Prop := ∀ K O0, O0.length + (A ++ K).length ≤ 8192 → ∃ L2 O2 d2, rpartF 2000 70 (A ++ K, O0, 0) = some (8, L2, O2, d2) ∧ O2.length + L2.length ≤ O0.length + (A ++ K).length
theorem paren {L X : List ByteArray} {d1 : Int} (h : rorF 2000 70 (L, [], 0) = some (0, [], X, d1)) : PartOK (sOpen :: L ++ [sShut]) X ∨ Part8 (sOpen :: L ++ [sShut]) := by
  have e : rpartF 2000 70 = rpartG (rorF 2000 69) := rfl
  rcases s2_or 2000 70 69 0 1 (by omega) (by omega) (by omega) L [] [] X d1 h with h1 | h1
  · refine .inl fun K O0 hw => ?_
    have h2 := h1 (sShut :: K) O0 (fun _ => .inr ⟨K, rfl⟩) (by simp only [List.length_append, List.length_cons, List.length_nil] at hw ⊢; omega)
    rw [List.nil_append] at h2
    rw [e, List.append_assoc, List.cons_append]
    have c1 : (0 : Int) ≤ 0 ∧ (0 : Int) ≤ 4294967296 := by omega
    have c2 : ¬ (64 : Int) < 0 + 1 := by omega
    have c3 : (0 : Int) ≤ 1 ∧ (1 : Int) ≤ 4294967296 := by omega
    have c4 : (0 : Int) + 1 = 1 := rfl
    have c5 : (1 : Int) - 1 = 0 := rfl
    simp only [rpartG, rtk_yes, ↓reduceIte, c1, c2, c3, c4, c5, and_self, List.singleton_append, h2, Option.bind_some]
    simp
  · refine .inr fun K O0 hw => ?_
    obtain ⟨L2, O2, d2, h2, w⟩ := h1 (sShut :: K) O0 (fun _ => .inr ⟨K, rfl⟩) (by simp only [List.length_append, List.length_cons, List.length_nil] at hw ⊢; omega)
    rw [e, List.append_assoc, List.cons_append]
    have c1 : (0 : Int) ≤ 0 ∧ (0 : Int) ≤ 4294967296 := by omega
    have c2 : ¬ (64 : Int) < 0 + 1 := by omega
    have c4 : (0 : Int) + 1 = 1 := rfl
    have h8 : ¬ ((8 : Int) = 0) := by omega
    refine ⟨L2, O2, d2, ?_, by simp only [List.length_append, List.length_cons, List.length_nil] at w ⊢; omega⟩
    simp only [rpartG, rtk_yes, ↓reduceIte, c1, c2, c4, and_self, List.singleton_append, h2, Option.bind_some, h8]
    simp
def notR : Rt → Option (Int × Rt) := rnotF (rpartF 2000 70)
def andR : Rt → Option (Int × Rt) := rlistF sAnd notR 2000
theorem orR_eq : rorF 2000 70 = rlistF sOr andR 2000 := rfl
/-- A list of one part. -/
theorem list_one {sg : ByteArray} {R : Rt → Option (Int × Rt)} {L K O X : List ByteArray} {d : Int} (h : R (L, O, d) = some (0, K, X, d)) (hk : ∀ t, K ≠ sg :: t) : rlistF sg R 2000 (L, O, d) = some (0, K, X, d) := by
  unfold rlistF
  rw [h]
  simp only [Option.bind_some]
  show rlistL sg R (1999 + 1) 0 (K, X, d) = _
  rw [rlistL]
  simp only [↓reduceIte, rtk_no hk]
  rfl
theorem list_err {sg : ByteArray} {R : Rt → Option (Int × Rt)} {L K O X : List ByteArray} {d d1 e : Int} (he : ¬ e = 0) (h : R (L, O, d) = some (e, K, X, d1)) : rlistF sg R 2000 (L, O, d) = some (e, K, X, d1) := by
  unfold rlistF
  rw [h]
  simp only [Option.bind_some]
  exact rlistL_stop sg R 1999 he
/-- A list of two parts. -/
theorem list_two {sg : ByteArray} {R : Rt → Option (Int × Rt)} {L T K O X Z : List ByteArray} {d : Int} (h : R (L, O, d) = some (0, sg :: T, X, d)) (h2 : R (T, X, d) = some (0, K, Z, d)) (hz : Z.length < 4398046511104) (hk : ∀ t, K ≠ sg :: t) : rlistF sg R 2000 (L, O, d) = some (0, K, Z ++ [sg], d) := by
  unfold rlistF
  rw [h]
  simp only [Option.bind_some]
  show rlistL sg R (1998 + 1 + 1) 0 (sg :: T, X, d) = _
  rw [rlistL]
  simp only [↓reduceIte, rtk_yes, h2, Option.bind_some, hz]
  rw [rlistL]
  simp only [↓reduceIte, rtk_no hk]
  rfl
theorem not_open {A K O : List ByteArray} : notR (sOpen :: A ++ K, O, 0) = rpartF 2000 70 (sOpen :: A ++ K, O, 0) := by
  unfold notR rnotF
  have h : rtk sNot (sOpen :: A ++ K) = (false, sOpen :: A ++ K) := rtk_no (fun t e => by
    rw [List.cons_append] at e
    exact absurd (List.cons.inj e).1 (by decide))
  simp only [h, Bool.false_eq_true, and_false, ↓reduceIte]
  cases rpartF 2000 70 (sOpen :: A ++ K, O, 0) <;> rfl
end Go.Proofs.Ytcpemjolabofnaa.Fr
