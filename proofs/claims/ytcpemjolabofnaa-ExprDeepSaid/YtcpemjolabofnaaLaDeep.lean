/- ExprDeep, in plain Lean. -/
import Derived.Test.YtcpemjolabofnaaExY
import Derived.Test.YtcpemjolabofnaaPAllxDeep
namespace Go.Proofs.Ytcpemjolabofnaa.Fr
open Go Go.RowKit Go.Proofs.Ytcpemjolabofnaa.PAll Go.Proofs.YtcpemjolabofnaaW.PrintWords Go.Proofs.YtcpemjolabofnaaW.PrintLast Go.Proofs.YtcpemjolabofnaaPw
set_option linter.unusedVariables false
set_option linter.unusedSimpArgs false
theorem wf_i64 {x : Int} (h : (Lit.int .i64 x).wf = true) : -9223372036854775808 ≤ x ∧ x ≤ 9223372036854775807 := by
  simp only [Lit.wf, IntKind.min, IntKind.max, IntKind.signed, IntKind.bits, Bool.and_eq_true] at h
  simp at h
  omega
def sA : ByteArray := ⟨#[97]⟩
/-- So many brackets, each with a ! ahead perhaps. -/
def nest (b : Bool) : Nat → ByteArray
  | 0 => sA
  | i + 1 => if b = true then sNot ++ ((sOpen ++ nest b i) ++ sShut) else (sOpen ++ nest b i) ++ sShut
def nestP (b : Bool) : Nat → List ByteArray
  | 0 => [sA]
  | i + 1 => if b = true then sNot :: (sOpen :: nestP b i ++ [sShut]) else sOpen :: nestP b i ++ [sShut]
def nestX (b : Bool) : Nat → List ByteArray
  | 0 => [sA]
  | i + 1 => if b = true then nestX b i ++ [sNot] else nestX b i
theorem nest_size (b : Bool) : ∀ i, (nest b i).size ≤ 3 * i + 1
  | 0 => Nat.le_refl _
  | i + 1 => by
    have := nest_size b i
    unfold nest
    split
    · rw [ByteArray.size_append, ByteArray.size_append, ByteArray.size_append]
      show 1 + (1 + (nest b i).size + 1) ≤ _
      omega
    · rw [ByteArray.size_append, ByteArray.size_append]
      show 1 + (nest b i).size + 1 ≤ _
      omega
theorem nestP_len (b : Bool) : ∀ i, (nestP b i).length ≤ 3 * i + 1
  | 0 => Nat.le_refl _
  | i + 1 => by
    have := nestP_len b i
    unfold nestP
    split
    · simp only [List.length_append, List.length_cons, List.length_nil]
      omega
    · simp only [List.length_append, List.length_cons, List.length_nil]
      omega
theorem nestX_len (b : Bool) : ∀ i, (nestX b i).length ≤ i + 1
  | 0 => Nat.le_refl _
  | i + 1 => by
    have := nestX_len b i
    unfold nestX
    split
    · rw [List.length_append, List.length_singleton]
      omega
    · omega
theorem nestP_big (b : Bool) : ∀ i, i + 1 ≤ (nestP b i).length
  | 0 => Nat.le_refl _
  | i + 1 => by
    have := nestP_big b i
    unfold nestP
    split
    · simp only [List.length_append, List.length_cons, List.length_nil]
      omega
    · simp only [List.length_append, List.length_cons, List.length_nil]
      omega
/-- A bracket behind a text that ends well. -/
theorem nest_pcs (b : Bool) : ∀ i, [] ∉ pcs (bytesOf (nest b i)) ∧ pcsS (nest b i) = nestP b i
  | 0 => by
    have e : pcs (bytesOf sA) = [[97]] := rfl
    refine ⟨by unfold nest; rw [e]; simp, ?_⟩
    unfold nest nestP pcsS
    rw [e]
    rfl
  | i + 1 => by
    obtain ⟨h1, h2⟩ := nest_pcs b i
    have hs : pcs (bytesOf (nest b i ++ sShut)) = pcs (bytesOf (nest b i)) ++ [[41]] := by
      rw [bytesOf_append, show bytesOf sShut = [41] from rfl, pcs_append _ (.inr ⟨41, [], rfl, rfl⟩) _ _ (Nat.le_refl _) h1]
      rfl
    have ho : pcs (bytesOf ((sOpen ++ nest b i) ++ sShut)) = [40] :: (pcs (bytesOf (nest b i)) ++ [[41]]) := by
      rw [ByteArray.append_assoc, bytesOf_append, ← hs]
      show pcs (40 :: bytesOf (nest b i ++ sShut)) = _
      rw [pcs_cons, if_neg (show ¬ isB 40 = true by decide), if_neg (show ¬ isT 40 = true by decide), if_pos (by omega)]
    have hS : pcsS ((sOpen ++ nest b i) ++ sShut) = sOpen :: nestP b i ++ [sShut] := by
      unfold pcsS at h2 ⊢
      rw [ho, List.map_cons, List.map_append, h2]
      rfl
    have hn : pcs (bytesOf (sNot ++ ((sOpen ++ nest b i) ++ sShut))) = [33] :: pcs (bytesOf ((sOpen ++ nest b i) ++ sShut)) := by
      rw [bytesOf_append]
      show pcs (33 :: bytesOf ((sOpen ++ nest b i) ++ sShut)) = _
      rw [pcs_cons, if_neg (show ¬ isB 33 = true by decide), if_neg (show ¬ isT 33 = true by decide), if_pos (by omega)]
    unfold nest nestP
    by_cases c : b = true
    · rw [if_pos c, if_pos c]
      refine ⟨by rw [hn, ho]; simp [h1], ?_⟩
      unfold pcsS at hS ⊢
      rw [hn, List.map_cons, hS]
      rfl
    · rw [if_neg c, if_neg c]
      exact ⟨by rw [ho]; simp [h1], hS⟩
theorem tagA : rTag sA = true := by decide
/-- One of the parts of a list: what it tells. -/
def nR (n : Nat) : Rt → Option (Int × Rt) := rnotF (rpartF 2000 n)
def aR (n : Nat) : Rt → Option (Int × Rt) := rlistF sAnd (nR n) 2000
theorem or_eq (n : Nat) : rorF 2000 n = rlistF sOr (aR n) 2000 := rfl
theorem nest_read (b : Bool) : ∀ (i n : Nat) (d : Int) (K O : List ByteArray), 0 ≤ d → d ≤ 64 → 65 ≤ n + d → O.length + (nestP b i ++ K).length ≤ 8192 → (K = [] ∨ ∃ t, K = sShut :: t) →
    (d + i ≤ 64 → nR n (nestP b i ++ K, O, d) = some (0, K, O ++ nestX b i, d)) ∧ (64 < d + i → ∃ L2 O2 d2, nR n (nestP b i ++ K, O, d) = some (8, L2, O2, d2) ∧ O2.length + L2.length ≤ O.length + (nestP b i ++ K).length)
  | i, 0, d, K, O, h0, h1, h2, hw, hk => by omega
  | 0, n + 1, d, K, O, h0, h1, h2, hw, hk => by
    refine ⟨fun _ => ?_, fun h => by omega⟩
    have hl : O.length < 4398046511104 := by omega
    have e1 : rpartF 2000 (n + 1) = rpartG (rorF 2000 n) := rfl
    have hro : rtk sOpen (sA :: K) = (false, sA :: K) := rtk_no (fun t e => absurd (List.cons.inj e).1 (by decide))
    have hrn : rtk sNot (sA :: K) = (false, sA :: K) := rtk_no (fun t e => absurd (List.cons.inj e).1 (by decide))
    have hsz : sA.size ≤ 140737488351232 := by decide
    unfold nR rnotF nestP nestX
    simp only [List.cons_append, List.nil_append, hrn, e1, rpartG, hro, Bool.false_eq_true, ↓reduceIte, hsz, tagA, hl, Option.bind_some, and_false]
  | i + 1, n + 1, d, K, O, h0, h1, h2, hw, hk => by
    have e1 : rpartF 2000 (n + 1) = rpartG (rorF 2000 n) := rfl
    have hdc : 0 ≤ d ∧ d ≤ 4294967296 := ⟨h0, by omega⟩
    have hdc1 : 0 ≤ d + 1 ∧ d + 1 ≤ 4294967296 := ⟨by omega, by omega⟩
    have h8 : ¬ ((8 : Int) = 0) := by omega
    have hno : ∀ T, rtk sNot (sOpen :: T) = (false, sOpen :: T) := fun T => rtk_no (fun t e => absurd (List.cons.inj e).1 (by decide))
    have hlen : (nestP b (i + 1) ++ K).length = (if b = true then 1 else 0) + ((nestP b i).length + K.length + 2) := by
      conv => lhs; unfold nestP
      by_cases c : b = true
      · rw [if_pos c, if_pos c]
        simp only [List.length_append, List.length_cons, List.length_nil]
        omega
      · rw [if_neg c, if_neg c]
        simp only [List.length_append, List.length_cons, List.length_nil]
        omega
    have hwi : O.length + (nestP b i ++ (sShut :: K)).length ≤ 8192 := by
      rw [hlen] at hw
      simp only [List.length_append, List.length_cons]
      omega
    -- what stands in the brackets
    have hpart : (d + ((i + 1 : Nat) : Int) ≤ 64 → rpartF 2000 (n + 1) (sOpen :: (nestP b i ++ (sShut :: K)), O, d) = some (0, K, O ++ nestX b i, d)) ∧ (64 < d + ((i + 1 : Nat) : Int) → ∃ L2 O2 d2, rpartF 2000 (n + 1) (sOpen :: (nestP b i ++ (sShut :: K)), O, d) = some (8, L2, O2, d2) ∧ O2.length + L2.length ≤ O.length + (nestP b i ++ (sShut :: K)).length) := by
      by_cases c : 64 < d + 1
      · refine ⟨fun h => by omega, fun h => ⟨nestP b i ++ (sShut :: K), O, d + 1, ?_, Nat.le_refl _⟩⟩
        rw [e1]
        simp only [rpartG, rtk_yes, ↓reduceIte, hdc, and_self, c]
      · obtain ⟨i1, i2⟩ := nest_read b i n (d + 1) (sShut :: K) O (by omega) (by omega) (by omega) hwi (.inr ⟨K, rfl⟩)
        have hns : ∀ (sg : ByteArray), sg ≠ sShut → ∀ t, sShut :: K ≠ sg :: t := fun sg hs t e => hs (List.cons.inj e).1.symm
        refine ⟨fun h => ?_, fun h => ?_⟩
        · have e2 := i1 (by omega)
          have e3 : rorF 2000 n (nestP b i ++ (sShut :: K), O, d + 1) = some (0, sShut :: K, O ++ nestX b i, d + 1) := by
            rw [or_eq]
            exact list_one (list_one e2 (hns sAnd (by decide))) (hns sOr (by decide))
          rw [e1]
          simp only [rpartG, rtk_yes, ↓reduceIte, hdc, hdc1, and_self, c, e3, Option.bind_some]
          simp
        · obtain ⟨L2, O2, d2, e2, w⟩ := i2 (by omega)
          have e3 : rorF 2000 n (nestP b i ++ (sShut :: K), O, d + 1) = some (8, L2, O2, d2) := by
            rw [or_eq]
            exact list_err h8 (list_err h8 e2)
          refine ⟨L2, O2, d2, ?_, w⟩
          rw [e1]
          simp only [rpartG, rtk_yes, ↓reduceIte, hdc, and_self, c, e3, Option.bind_some, h8]
    have hX := nestX_len b i
    have hlo : (O ++ nestX b i).length < 4398046511104 := by
      have := nestP_big b i
      rw [hlen] at hw
      rw [List.length_append]
      omega
    have hwe : O.length + (nestP b i ++ (sShut :: K)).length ≤ O.length + (nestP b (i + 1) ++ K).length := by
      rw [hlen]
      simp only [List.length_append, List.length_cons]
      omega
    by_cases cb : b = true
    · have eP : nestP b (i + 1) ++ K = sNot :: (sOpen :: (nestP b i ++ (sShut :: K))) := by
        conv => lhs; unfold nestP
        rw [if_pos cb]
        simp only [List.cons_append, List.append_assoc, List.nil_append]
      have eX : nestX b (i + 1) = nestX b i ++ [sNot] := by
        conv => lhs; unfold nestX
        rw [if_pos cb]
      rw [eP, eX]
      rw [eP] at hwe
      refine ⟨fun h => ?_, fun h => ?_⟩
      · unfold nR rnotF
        simp only [rtk_yes, hpart.1 h, Option.bind_some, and_self, ↓reduceIte, hlo, List.append_assoc]
      · obtain ⟨L2, O2, d2, e2, w⟩ := hpart.2 h
        refine ⟨L2, O2, d2, ?_, Nat.le_trans w hwe⟩
        unfold nR rnotF
        simp only [rtk_yes, e2, Option.bind_some, h8, false_and, ↓reduceIte]
    · have eP : nestP b (i + 1) ++ K = sOpen :: (nestP b i ++ (sShut :: K)) := by
        conv => lhs; unfold nestP
        rw [if_neg cb]
        simp only [List.cons_append, List.append_assoc, List.nil_append]
      have eX : nestX b (i + 1) = nestX b i := by
        conv => lhs; unfold nestX
        rw [if_neg cb]
      rw [eP, eX]
      rw [eP] at hwe
      refine ⟨fun h => ?_, fun h => ?_⟩
      · unfold nR rnotF
        simp only [hno, hpart.1 h, Option.bind_some, Bool.false_eq_true, and_false, ↓reduceIte]
      · obtain ⟨L2, O2, d2, e2, w⟩ := hpart.2 h
        refine ⟨L2, O2, d2, ?_, Nat.le_trans w hwe⟩
        unfold nR rnotF
        simp only [hno, e2, Option.bind_some, Bool.false_eq_true, and_false, ↓reduceIte]
theorem nest_parse (b : Bool) (i : Nat) (hi : i ≤ 100) : (i ≤ 64 → expr_Parse.f (nest b i) = some (nestX b i, 0)) ∧ (64 < i → expr_Parse.f (nest b i) = some ([], 8)) := by
  have hz := nest_size b i
  have hl := nestP_len b i
  have h8 : ¬ ((8 : Int) = 0) := by omega
  obtain ⟨h1, h2⟩ := nest_read b i 70 0 [] [] (by omega) (by omega) (by omega) (by rw [List.append_nil]; simp only [List.length_nil]; omega) (.inl rfl)
  rw [List.append_nil] at h1 h2
  have hns : ∀ (sg : ByteArray) (t : List ByteArray), ([] : List ByteArray) ≠ sg :: t := fun sg t e => by cases e
  refine ⟨fun h => ?_, fun h => ?_⟩
  · have e2 := h1 (by omega)
    have e3 : rorF 2000 70 (pcsS (nest b i), [], 0) = some (0, [], nestX b i, 0) := by
      rw [(nest_pcs b i).2, or_eq]
      exact list_one (list_one e2 (hns sAnd)) (hns sOr)
    rw [parse_of (by omega) e3]
    simp
  · obtain ⟨L2, O2, d2, e2, _⟩ := h2 (by omega)
    have e3 : rorF 2000 70 (pcsS (nest b i), [], 0) = some (8, L2, O2, d2) := by
      rw [(nest_pcs b i).2, or_eq]
      exact list_err h8 (list_err h8 e2)
    rw [parse_of (by omega) e3]
    simp
theorem nest_val (b : Bool) : ∀ i : Nat, Val [sA] (nestX b i) (!b || decide (i % 2 = 0))
  | 0 => by
    have h := val_tag [sA] tagA
    have e : memB [sA] sA = true := by decide
    rw [e] at h
    cases b <;> exact h
  | i + 1 => by
    have ih := nest_val b i
    unfold nestX
    cases b with
    | false =>
      rw [if_neg (by simp)]
      simpa using ih
    | true =>
      rw [if_pos rfl]
      have h := val_not ih
      have e : (!(!true || decide (i % 2 = 0))) = (!true || decide ((i + 1) % 2 = 0)) := by
        by_cases c : i % 2 = 0
        · rw [decide_eq_true c, decide_eq_false (by omega)]; rfl
        · rw [decide_eq_false c, decide_eq_true (by omega)]; rfl
      rw [e] at h
      exact h
theorem deep_loop (b : Bool) (n : Nat) (hn : n ≤ 100) (h : Ev (fun k => seichelaw13_ExprDeep.l0 k (n : Int) b (nest b n) (n : Int)) true) : ∀ (m i : Nat), n - i = m → i ≤ n → Ev (fun k => seichelaw13_ExprDeep.l0 k (n : Int) b (nest b i) (i : Int)) true
  | 0, i, hm, hi => by
    have e : i = n := by omega
    subst e
    exact h
  | m + 1, i, hm, hi => by
    refine Ev.step (fun _ => rfl) ?_
    simp only [seichelaw13_ExprDeep.l0]
    have hz := nest_size b i
    have k1 : 1 + (nest b i).size ≤ 9223372036854775807 := by omega
    have k2 : ((⟨#[40]⟩ : ByteArray) ++ nest b i).size + 1 ≤ 9223372036854775807 := by rw [ByteArray.size_append]; show 1 + (nest b i).size + 1 ≤ _; omega
    have k3 : 1 + (((⟨#[40]⟩ : ByteArray) ++ nest b i) ++ (⟨#[41]⟩ : ByteArray)).size ≤ 9223372036854775807 := by rw [ByteArray.size_append, ByteArray.size_append]; show 1 + (1 + (nest b i).size + 1) ≤ _; omega
    have hw : wrap64 ((i : Int) + 1) = ((i + 1 : Nat) : Int) := by rw [w64 (by omega) (by omega)]; omega
    have hlt : (i : Int) < (n : Int) := by omega
    have ih := deep_loop b n hn h m (i + 1) (by omega) (by omega)
    refine ev_pos hlt (ev_pos k1 (ev_pos k2 ?_))
    rw [hw]
    by_cases cb : b = true
    · refine ev_pos cb (ev_pos k3 ?_)
      have e : nest b (i + 1) = (⟨#[33]⟩ : ByteArray) ++ (((⟨#[40]⟩ : ByteArray) ++ nest b i) ++ (⟨#[41]⟩ : ByteArray)) := by
        conv => lhs; unfold nest
        rw [if_pos cb]
        rfl
      rw [e] at ih
      exact ih
    · refine ev_neg cb ?_
      have e : nest b (i + 1) = ((⟨#[40]⟩ : ByteArray) ++ nest b i) ++ (⟨#[41]⟩ : ByteArray) := by
        conv => lhs; unfold nest
        rw [if_neg cb]
        rfl
      rw [e] at ih
      exact ih
theorem ExprDeep : seichelaw13_ExprDeep.Pure := by
  intro a0 a1 hwf
  refine Ev.rounds (r := true) ?_
  unfold seichelaw13_ExprDeep.f
  refine ev_call alive_ev (ev_pos rfl ?_)
  have hT : Ev (fun k => seichelaw13_ExprDeep.j0 k a0 a1 true) true := by
    refine Ev.step (fun _ => rfl) ?_
    simp only [seichelaw13_ExprDeep.j0]
    exact ev_pos (by first | trivial | rfl) (Ev.now _)
  by_cases c : a0 < 0
  · exact ev_pos c hT
  · refine ev_neg c ?_
    by_cases c2 : a0 > 100
    · rw [decide_eq_true c2]
      exact hT
    · rw [decide_eq_false c2]
      refine Ev.step (fun _ => rfl) ?_
      simp only [seichelaw13_ExprDeep.j0]
      refine ev_neg (by simp) ?_
      obtain ⟨n, rfl⟩ : ∃ n : Nat, a0 = (n : Int) := ⟨a0.toNat, by omega⟩
      refine deep_loop a1 n (by omega) ?_ n 0 (by omega) (Nat.zero_le _)
      refine Ev.step (fun _ => rfl) ?_
      simp only [seichelaw13_ExprDeep.l0]
      refine ev_neg (by omega) ?_
      obtain ⟨h1, h2⟩ := nest_parse a1 n (by omega)
      by_cases c3 : (n : Int) > 64
      · have hp := h2 (by omega)
        simp only [hp, Option.bind_some]
        exact ev_pos c3 (ev_pos (by first | trivial | rfl) (ev_ret rfl))
      · have hp := h1 (by omega)
        have hX := nestX_len a1 n
        have he := eval_f (on := [sA]) (by omega) (by decide) (parse_small hp) (nest_val a1 n)
        have he' : expr_Eval.f (nestX a1 n) [(⟨#[97]⟩ : ByteArray)] = some (!a1 || decide (n % 2 = 0), 0) := he
        simp only [hp, Option.bind_some, he']
        refine ev_neg c3 (ev_pos (by first | trivial | rfl) (ev_pos (by first | trivial | rfl) ?_))
        have hm : Int.tmod (n : Int) 2 = ((n % 2 : Nat) : Int) := rfl
        by_cases cb : a1 = true
        · refine ev_pos cb (ev_ret ?_)
          rw [cb, hm]
          by_cases c4 : n % 2 = 0
          · rw [c4]; rfl
          · have : n % 2 = 1 := by omega
            rw [this]; rfl
        · have cf := Bool.eq_false_iff.2 cb
          refine ev_neg cb (ev_ret ?_)
          rw [cf]
          rfl
end Go.Proofs.Ytcpemjolabofnaa.Fr
