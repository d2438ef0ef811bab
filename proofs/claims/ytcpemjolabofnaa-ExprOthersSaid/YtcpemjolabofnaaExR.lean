/- The reference's reader in memory, and its Take. -/
import Derived.Test.YtcpemjolabofnaaExC
import Derived.Test.YtcpemjolabofnaaExQ
import Derived.Test.YtcpemjolabofnaaExP
namespace Go.Proofs.Ytcpemjolabofnaa.PAll
open Go Go.RowKit Go.Proofs.YtcpemjolabofnaaW.PrintWords Go.Proofs.YtcpemjolabofnaaW.PrintLast Go.Proofs.YtcpemjolabofnaaW.PrintMore Go.Proofs.YtcpemjolabofnaaMy Go.Proofs.Ytcpemjolabofnaa Go.Proofs.YtcpemjolabofnaaPw
set_option linter.unusedVariables false
set_option linter.unusedSimpArgs false
/-- The reader at block g: the pieces that are left (read alone), the parts (in a row of the call's own), how deep it is. -/
def IsR (w0 W : World) (g : Nat) (L O : List ByteArray) (d : Int) : Prop :=
  ∃ A c ov, W.heap[g]? = some (.cells #[.slice A L.length c, ov, .int .i64 d] 47 (0, 0)) ∧ w0.heap.size ≤ g ∧ L.length ≤ c ∧ Kd.F Kd.string W (fun k => k ≠ g ∧ some k ≠ ov.ownBlock) A L.length L ∧ Kd.R Kd.string 9 W w0.heap.size (fun _ => True) ov O
section
variable {w0 W W1 : World} {g c : Nat} {L O : List ByteArray} {d : Int} {A : Option Addr} {ov : Value}
theorem IsR.below (h : IsR w0 W g L O d) (hb : Below W.heap.size W W1) : IsR w0 W1 g L O d := by
  obtain ⟨A, c, ov, h0, h1, hc, hf, h2⟩ := h
  exact ⟨A, c, ov, blk_below h0 hb, h1, hc, Kd.F_below hf hb, Kd.R_below h2 hb⟩
theorem IsR.drewN (h : IsR w0 W g L O d) (m : Nat) : IsR w0 (W.drewN m) g L O d := h.below (pw_below_drewN (Below.refl _ _) m)
theorem IsR.rows_set {v : Value} {ok : Nat → Prop} {xs : List ByteArray} {cs : Array Value} {B : Nat} (h0 : W.heap[g]? = some (.cells cs 47 (0, 0))) (h : Kd.R Kd.string 9 W B ok v xs) (j : Nat) (u : Value) : Kd.R Kd.string 9 (W.setCell ⟨g, j, none⟩ u) B ok v xs :=
  Kd.R_set h h0 (by intro q hq; simp [Kd.string, Kd.scalar] at hq; omega) j u
theorem IsR.ne {ok : Nat → Prop} {xs : List ByteArray} {cs : Array Value} {B : Nat} (h0 : W.heap[g]? = some (.cells cs 47 (0, 0))) (h : Kd.R Kd.string 9 W B ok ov xs) : some g ≠ ov.ownBlock := by
  intro e
  obtain ⟨inner, ho⟩ := Kd.R_own h
  obtain ⟨cells, hc⟩ := own_typed ho g e.symm
  rw [h0] at hc
  simp at hc
theorem IsR.set_2 (h : IsR w0 W g L O d) (x : Int) : IsR w0 (W.setCell ⟨g, 2, none⟩ (.int .i64 x)) g L O x := by
  obtain ⟨A, c, ov, h0, h1, hc, hf, h2⟩ := h
  exact ⟨A, c, ov, blk_set h0 2 _, h1, hc, Kd.F_far (p := ⟨g, 2, none⟩) hf (fun k hk => hk.1) _, IsR.rows_set h0 h2 2 _⟩
theorem cellR_0 (h : W.heap[g]? = some (.cells #[.slice A L.length c, ov, .int .i64 d] 47 (0, 0))) : W.cell? ⟨g, 0, none⟩ = some (.slice A L.length c) := (blk_cell h 0).trans rfl
theorem cellR_1 (h : W.heap[g]? = some (.cells #[.slice A L.length c, ov, .int .i64 d] 47 (0, 0))) : W.cell? ⟨g, 1, none⟩ = some ov := (blk_cell h 1).trans rfl
theorem cellR_2 (h : W.heap[g]? = some (.cells #[.slice A L.length c, ov, .int .i64 d] 47 (0, 0))) : W.cell? ⟨g, 2, none⟩ = some (.int .i64 d) := (blk_cell h 2).trans rfl
/-- A part is put behind the parts, and stored. -/
theorem IsR.put {v1 : Value} {x : ByteArray} (hg0 : w0.heap.size ≤ g) (h0 : W.heap[g]? = some (.cells #[.slice A L.length c, ov, .int .i64 d] 47 (0, 0))) (hc : L.length ≤ c) (hf : Kd.F Kd.string W (fun k => k ≠ g ∧ some k ≠ ov.ownBlock) A L.length L) (h2 : Kd.R Kd.string 9 W w0.heap.size (fun _ => True) ov O)
    (ho : Kd.R Kd.string 9 W1 w0.heap.size (fun _ => True) v1 (O ++ [x])) (hg : W.grownBy W1 ov.ownBlock) (hat : v1.ownBlock = ov.ownBlock ∨ ∃ b, v1.ownBlock = some b ∧ W.heap.size ≤ b) : IsR w0 (W1.setCell ⟨g, 1, none⟩ v1) g L (O ++ [x]) d := by
  have b1 := blk_grown h0 hg (IsR.ne h0 h2)
  exact ⟨A, c, v1, blk_set b1 1 v1, hg0, hc, Kd.F_far (p := ⟨g, 1, none⟩) (Kd.F_after hf hg hat) (fun k hk => hk.1) _, IsR.rows_set b1 ho 1 v1⟩
/-- The first piece is taken off. -/
theorem IsR.cut {x : ByteArray} (h1 : w0.heap.size ≤ g) (h0 : W.heap[g]? = some (.cells #[.slice A (x :: L).length c, ov, .int .i64 d] 47 (0, 0))) (hc : (x :: L).length ≤ c) (hf : Kd.F Kd.string W (fun k => k ≠ g ∧ some k ≠ ov.ownBlock) A (x :: L).length (x :: L)) (h2 : Kd.R Kd.string 9 W w0.heap.size (fun _ => True) ov O) :
    IsR w0 (W.setCell ⟨g, 0, none⟩ (.slice (if c = 1 then A else A.map (·.add 1)) L.length (c - 1))) g L O d := by
  have hf1 := Kd.F_cut (m := 1) hf (by simp) hc
  exact ⟨_, c - 1, ov, blk_set h0 0 _, h1, by have h_ := hc; simp only [List.length_cons] at h_; omega, Kd.F_far (p := ⟨g, 0, none⟩) hf1 (fun k hk => hk.1) _, IsR.rows_set h0 h2 0 _⟩
/-- The first piece is put behind the parts, then taken off. -/
theorem IsR.put_cut {v1 : Value} {x : ByteArray} (hg0 : w0.heap.size ≤ g) (h0 : W.heap[g]? = some (.cells #[.slice A (x :: L).length c, ov, .int .i64 d] 47 (0, 0))) (hc : (x :: L).length ≤ c) (hf : Kd.F Kd.string W (fun k => k ≠ g ∧ some k ≠ ov.ownBlock) A (x :: L).length (x :: L)) (h2 : Kd.R Kd.string 9 W w0.heap.size (fun _ => True) ov O)
    (ho : Kd.R Kd.string 9 W1 w0.heap.size (fun _ => True) v1 (O ++ [x])) (hg : W.grownBy W1 ov.ownBlock) (hat : v1.ownBlock = ov.ownBlock ∨ ∃ b, v1.ownBlock = some b ∧ W.heap.size ≤ b) : IsR w0 ((W1.setCell ⟨g, 1, none⟩ v1).setCell ⟨g, 0, none⟩ (.slice (if c = 1 then A else A.map (·.add 1)) L.length (c - 1))) g L (O ++ [x]) d := by
  have b1 := blk_grown h0 hg (IsR.ne h0 h2)
  exact IsR.cut hg0 (blk_set b1 1 v1) hc (Kd.F_far (p := ⟨g, 1, none⟩) (Kd.F_after hf hg hat) (fun k hk => hk.1) _) (IsR.rows_set b1 ho 1 v1)
/-- The first piece. -/
theorem IsR.first {x : ByteArray} {ok : Nat → Prop} (hf : Kd.F Kd.string W ok A (x :: L).length (x :: L)) : ∃ ad, A = some ad ∧ W.cell? ad = some (.string x) ∧ W.cell? (ad.add 0) = some (.string x) ∧ ok ad.block := by
  obtain ⟨ad, cs, rfl, hl, hk, hcell, hok⟩ := Kd.F_get hf x 0 (by omega) (by simp only [List.length_cons]; omega)
  have h1 := hk.now
  simp only [Int.toNat_zero, List.getD_cons_zero] at h1
  have e : cs = [.string x] := h1
  subst e
  have h3 := hcell 0 (.string x) rfl
  simp only [Int.toNat_zero, Nat.zero_mul, Nat.add_zero] at h3
  refine ⟨ad, rfl, ?_, h3, hok (by decide)⟩
  have e : ad.add 0 = ad := by simp [Addr.add]
  rw [e] at h3
  exact h3
end
abbrev Rt := List ByteArray × List ByteArray × Int
def rtk (s : ByteArray) : List ByteArray → Bool × List ByteArray
  | [] => (false, [])
  | x :: t => if x = s then (true, t) else (false, x :: t)
set_option maxHeartbeats 2000000 in
set_option maxRecDepth 100000 in
theorem Take_Q (g : Nat) (s : ByteArray) (L O : List ByteArray) (d : Int) (b : Bool) (L2 : List ByteArray) (ht : rtk s L = (b, L2)) (w0 w : World) (hI : IsR w0 w g L O d) (hB : Below w0.heap.size w0 w) :
    Calls Try.prog 31 #[.pointer (some ⟨g, 0, none⟩), .string s] w fun e w' => e = .returned (.bool b) ∧ IsR w0 w' g L2 O d ∧ Below w0.heap.size w0 w' := by
  have HB := Aside0.mk hB
  clear hB
  obtain ⟨A, c, ov, h0, h1, hc, hf, h2⟩ := hI
  cases L with
  | nil =>
    simp only [rtk, Prod.mk.injEq] at ht
    obtain ⟨rfl, rfl⟩ := ht
    have HI := Aside0.mk (⟨A, c, ov, h0, h1, hc, hf, h2⟩ : IsR w0 w g [] O d)
    have z0 : w.cell? ⟨g, 0, none⟩ = some (.slice A 0 c) := cellR_0 h0
    clear h0 hc hf h2
    go_enter Try.func31, Try.ntmps31
    go_wp2
    go_ret
    exact ⟨rfl, HI.out, HB.out⟩
  | cons x t =>
    obtain ⟨ad, rfl, hx0, hx1, hx2⟩ := IsR.first hf
    simp only [rtk] at ht
    obtain ⟨n, hn⟩ : ∃ n : Nat, n = t.length + 1 := ⟨_, rfl⟩
    have z0 : w.cell? ⟨g, 0, none⟩ = some (.slice (some ad) n c) := by rw [hn]; exact cellR_0 h0
    have cn : ((n : Int) == 0) = false := beq_eq_false_iff_ne.mpr (by omega)
    have cl : (0 < (n : Int)) = True := eq_true (by omega)
    have cl2 : (0 < n) = True := eq_true (by omega)
    by_cases e : x = s
    · rw [if_pos e] at ht
      simp only [Prod.mk.injEq] at ht
      obtain ⟨rfl, rfl⟩ := ht
      have e1 : (x.toList == s.toList) = true := beq_iff_eq.mpr (by rw [e])
      have e2 : (x.toList != s.toList) = false := bne_eq_false_iff_eq.mpr (by rw [e])
      obtain ⟨i0, hi0, _, hsz, _⟩ := info_parts info9
      have hcut := cut_from (P := Try.prog) 24 9 .i64 Try.underlying24 hi0 1 hsz (some ad) n c 1 (by omega) (by omega)
      obtain ⟨A1, hA⟩ : ∃ A1, A1 = (if c = 1 then some ad else (some ad).map (·.add 1)) := ⟨_, rfl⟩
      have e3 : (if c = (1 : Int).toNat then some ad else (some ad).map (·.add ((1 : Int).toNat * 1))) = A1 := by rw [hA]; rfl
      rw [e3] at hcut
      simp only [Int.toNat_one] at hcut
      have HI := Aside0.mk (show IsR w0 (w.setCell ⟨g, 0, none⟩ (.slice A1 (n - 1) (c - 1))) g t O d from by rw [hA, hn]; exact IsR.cut h1 h0 hc hf h2)
      have H1 := Aside0.mk h1
      have f0 := blk_frozen h0 0
      clear h0 hc hf h2 e3 hA hn h1 e
      go_enter Try.func31, Try.ntmps31
      go_wp2
      go_ret
      exact ⟨rfl, HI.out, below_set HB.out H1.out⟩
    · rw [if_neg e] at ht
      simp only [Prod.mk.injEq] at ht
      obtain ⟨rfl, rfl⟩ := ht
      have e1 : (x.toList == s.toList) = false := beq_eq_false_iff_ne.mpr (fun h => e (ba_inj h))
      have e2 : (x.toList != s.toList) = true := bne_iff_ne.mpr (fun h => e (ba_inj h))
      have HI := Aside0.mk (⟨_, c, ov, h0, h1, hc, hf, h2⟩ : IsR w0 w g (x :: t) O d)
      clear h0 hc hf h2 e hn
      go_enter Try.func31, Try.ntmps31
      go_wp2
      go_ret
      exact ⟨rfl, HI.out, HB.out⟩
end Go.Proofs.Ytcpemjolabofnaa.PAll
/- The reference's And and Or. -/
namespace Go.Proofs.Ytcpemjolabofnaa.PAll
open Go Go.RowKit Go.Proofs.YtcpemjolabofnaaW.PrintWords Go.Proofs.YtcpemjolabofnaaW.PrintLast Go.Proofs.YtcpemjolabofnaaW.PrintMore Go.Proofs.YtcpemjolabofnaaMy Go.Proofs.Ytcpemjolabofnaa Go.Proofs.YtcpemjolabofnaaPw
set_option linter.unusedVariables false
set_option linter.unusedSimpArgs false
def rlistL (sg : ByteArray) (F : Rt → Option (Int × Rt)) : Nat → Int → Rt → Option (Int × Rt)
  | 0, _, _ => none
  | k + 1, e, x => if e = 0 then (if (rtk sg x.1).1 = true then (F ((rtk sg x.1).2, x.2.1, x.2.2)).bind fun r => (if r.2.2.1.length < 4398046511104 then rlistL sg F k r.1 (r.2.1, r.2.2.1 ++ [sg], r.2.2.2) else none) else some (0, (rtk sg x.1).2, x.2.1, x.2.2)) else some (e, x.1, x.2.1, x.2.2)
def rlistF (sg : ByteArray) (F : Rt → Option (Int × Rt)) (k : Nat) (x : Rt) : Option (Int × Rt) := (F x).bind fun r => rlistL sg F k r.1 r.2
/-- What the function fn does to a reader, as F tells. -/
def PR (fn : Nat) (F : Rt → Option (Int × Rt)) : Prop := ∀ (g : Nat) (l : List ByteArray) (O : List ByteArray) (d : Int) (e1 : Int) (l1 : List ByteArray) (O1 : List ByteArray) (d1 : Int) (w0 w : World), IsR w0 w g l O d → Below w0.heap.size w0 w → F (l, O, d) = some (e1, l1, O1, d1) →
  Calls Try.prog fn #[.pointer (some ⟨g, 0, none⟩)] w fun e w' => e = .returned (.int .i64 e1) ∧ IsR w0 w' g l1 O1 d1 ∧ Below w0.heap.size w0 w'
set_option maxHeartbeats 4000000 in
set_option maxRecDepth 100000 in
theorem rand_PR (F : Rt → Option (Int × Rt)) (hF : PR 36 F) (k : Nat) : PR 30 (rlistF sAnd F k) := by
  intro g l O0 d0 re rl rO rd w0 w hI hB h
  have hu := Try.underlying24
  have HI := Aside0.mk hI
  have HB := Aside0.mk hB
  have HF := Aside0.mk hF
  clear hI hB hF
  obtain ⟨⟨e1, l1, O1, d1⟩, h1, h⟩ := Option.bind_eq_some_iff.mp h
  have H1 := Aside0.mk h1
  have H := Aside0.mk h
  clear h1 h
  go_enter Try.func30, Try.ntmps30
  go_wp2_with (first | (go_at_call 36; refine (HF.out g l O0 d0 e1 l1 O1 d1 w0 _ HI.out HB.out H1.out).mono ?_; rintro e w2 ⟨rfl, hi, hb⟩; clear HI HB; have HI := Aside0.mk hi; have HB := Aside0.mk hb; clear hi hb))
  go_loopg [3] k (fun kq u3 w' => ∃ (e' : Int) (l' : List ByteArray) (O' : List ByteArray) (d' : Int), u3 = .int .i64 e' ∧ Aside0 (rlistL sAnd F kq e' (l', O', d') = some (re, rl, rO, rd)) ∧ Aside0 (IsR w0 w' g l' O' d') ∧ Aside0 (Below w0.heap.size w0 w'))
  case atStart => exact ⟨e1, l1, O1, d1, rfl, H, HI, HB⟩
  case round =>
    clear H HI HB H1
    obtain ⟨e', l', O', d', rfl, HA, HI, HB⟩ := hrel
    cases gk with
    | zero => exact absurd HA.out (by simp [rlistL])
    | succ k1 =>
      have h := HA.out
      clear HA
      simp only [rlistL] at h
      by_cases c : e' = 0
      · subst c
        rw [if_pos rfl] at h
        obtain ⟨b, l2, ht⟩ : ∃ b l2, rtk sAnd l' = (b, l2) := ⟨_, _, rfl⟩
        rw [ht] at h
        have HT := Aside0.mk ht
        clear ht
        cases b with
        | false =>
          rw [if_neg (by simp)] at h
          simp only [Option.some.injEq, Prod.mk.injEq] at h
          obtain ⟨rfl, rfl, rfl, rfl⟩ := h
          go_wp2_with (first | (go_at_call 31; refine (Take_Q g sAnd l' O' d' false l2 HT.out w0 _ HI.out HB.out).mono ?_; rintro e w2 ⟨rfl, hi, hb⟩; clear HI HB; have HI := Aside0.mk hi; have HB := Aside0.mk hb; clear hi hb))
          go_ret
          exact ⟨rfl, HI.out, HB.out⟩
        | true =>
          rw [if_pos rfl] at h
          obtain ⟨⟨e3, l3, O, d⟩, h3, h⟩ := Option.bind_eq_some_iff.mp h
          simp only at h3 h
          have H3 := Aside0.mk h3
          clear h3
          by_cases c2 : O.length < 4398046511104
          · rw [if_pos c2] at h
            have H := Aside0.mk h
            clear h
            go_wp2_with (first | (go_at_call 31; refine (Take_Q g sAnd l' O' d' true l2 HT.out w0 _ HI.out HB.out).mono ?_; rintro e w2 ⟨rfl, hi, hb⟩; clear HI HB; have HI := Aside0.mk hi; have HB := Aside0.mk hb; clear hi hb) | (go_at_call 36; refine (HF.out g l2 O' d' e3 l3 O d w0 _ HI.out HB.out H3.out).mono ?_; rintro e w2 ⟨rfl, ⟨A, c, ov, h0, h1, hc, hf, h2⟩, hb⟩; clear HI HB; have HB := Aside0.mk hb; clear hb; obtain ⟨A2, k2, e2⟩ := Kd.R_slice h2; subst e2; have q2 := cellR_1 h0; have f2 := blk_frozen h0 1) | ((with_reducible refine gate_builtin (b := .append) (xs := #[.tmp 18, .tmp 19]) rfl ?_); (try (refine gate_guard (by rfl) ?_; dsimp only)); at_builtin; refine Kd.R_append Kd.string (w0 := w0) w0.heap.size rfl (.tmp 18) (.tmp 19) 24 9 (.string ⟨#[]⟩) 16 rfl Try.underlying24 info9 rfl (by decide) (by omega) (.slice A2 O.length k2) O (sAnd) [.string (sAnd)] (fun _ => True) (fun _ => False) rfl rfl ?aP (fun _ hk => hk.elim) ?aF ?aO ?aB ?aS ?aL ?_; (case aP => exact rfl); (case aB => exact HB.out); (case aF => intro k hk; trivial); (case aO => exact h2); (case aS => exact below_size HB.out); (case aL => omega); intro v1 w1 ho hb hg hat; obtain ⟨Az, kz, ez⟩ := Kd.R_slice ho; subst ez; simp only [List.length_append, List.length_cons, List.length_nil, Nat.zero_add] at ho hat; have b1 := blk_grown h0 hg (IsR.ne h0 h2); have f1 := blk_frozen b1 1; have d1 : w1.cell? ⟨g, 1, none⟩ = some (.slice A2 O.length k2) := (blk_cell b1 1).trans rfl))
            go_roundg k1
            case rel => exact ⟨e3, l3, O ++ [sAnd], d, rfl, H, ⟨IsR.put h1 h0 hc hf h2 ho hg hat⟩, ⟨below_set hb h1⟩⟩
            case measure => omega
          · rw [if_neg c2] at h
            exact absurd h (by simp)
      · rw [if_neg c] at h
        simp only [Option.some.injEq, Prod.mk.injEq] at h
        obtain ⟨rfl, rfl, rfl, rfl⟩ := h
        have cb : (e' == 0) = false := beq_eq_false_iff_ne.mpr c
        clear c
        go_wp2
        go_ret
        exact ⟨rfl, HI.out, HB.out⟩
set_option maxHeartbeats 4000000 in
set_option maxRecDepth 100000 in
theorem ror_PR (F : Rt → Option (Int × Rt)) (hF : PR 30 F) (k : Nat) : PR 22 (rlistF sOr F k) := by
  intro g l O0 d0 re rl rO rd w0 w hI hB h
  have hu := Try.underlying24
  have HI := Aside0.mk hI
  have HB := Aside0.mk hB
  have HF := Aside0.mk hF
  clear hI hB hF
  obtain ⟨⟨e1, l1, O1, d1⟩, h1, h⟩ := Option.bind_eq_some_iff.mp h
  have H1 := Aside0.mk h1
  have H := Aside0.mk h
  clear h1 h
  go_enter Try.func22, Try.ntmps22
  go_wp2_with (first | (go_at_call 30; refine (HF.out g l O0 d0 e1 l1 O1 d1 w0 _ HI.out HB.out H1.out).mono ?_; rintro e w2 ⟨rfl, hi, hb⟩; clear HI HB; have HI := Aside0.mk hi; have HB := Aside0.mk hb; clear hi hb))
  go_loopg [3] k (fun kq u3 w' => ∃ (e' : Int) (l' : List ByteArray) (O' : List ByteArray) (d' : Int), u3 = .int .i64 e' ∧ Aside0 (rlistL sOr F kq e' (l', O', d') = some (re, rl, rO, rd)) ∧ Aside0 (IsR w0 w' g l' O' d') ∧ Aside0 (Below w0.heap.size w0 w'))
  case atStart => exact ⟨e1, l1, O1, d1, rfl, H, HI, HB⟩
  case round =>
    clear H HI HB H1
    obtain ⟨e', l', O', d', rfl, HA, HI, HB⟩ := hrel
    cases gk with
    | zero => exact absurd HA.out (by simp [rlistL])
    | succ k1 =>
      have h := HA.out
      clear HA
      simp only [rlistL] at h
      by_cases c : e' = 0
      · subst c
        rw [if_pos rfl] at h
        obtain ⟨b, l2, ht⟩ : ∃ b l2, rtk sOr l' = (b, l2) := ⟨_, _, rfl⟩
        rw [ht] at h
        have HT := Aside0.mk ht
        clear ht
        cases b with
        | false =>
          rw [if_neg (by simp)] at h
          simp only [Option.some.injEq, Prod.mk.injEq] at h
          obtain ⟨rfl, rfl, rfl, rfl⟩ := h
          go_wp2_with (first | (go_at_call 31; refine (Take_Q g sOr l' O' d' false l2 HT.out w0 _ HI.out HB.out).mono ?_; rintro e w2 ⟨rfl, hi, hb⟩; clear HI HB; have HI := Aside0.mk hi; have HB := Aside0.mk hb; clear hi hb))
          go_ret
          exact ⟨rfl, HI.out, HB.out⟩
        | true =>
          rw [if_pos rfl] at h
          obtain ⟨⟨e3, l3, O, d⟩, h3, h⟩ := Option.bind_eq_some_iff.mp h
          simp only at h3 h
          have H3 := Aside0.mk h3
          clear h3
          by_cases c2 : O.length < 4398046511104
          · rw [if_pos c2] at h
            have H := Aside0.mk h
            clear h
            go_wp2_with (first | (go_at_call 31; refine (Take_Q g sOr l' O' d' true l2 HT.out w0 _ HI.out HB.out).mono ?_; rintro e w2 ⟨rfl, hi, hb⟩; clear HI HB; have HI := Aside0.mk hi; have HB := Aside0.mk hb; clear hi hb) | (go_at_call 30; refine (HF.out g l2 O' d' e3 l3 O d w0 _ HI.out HB.out H3.out).mono ?_; rintro e w2 ⟨rfl, ⟨A, c, ov, h0, h1, hc, hf, h2⟩, hb⟩; clear HI HB; have HB := Aside0.mk hb; clear hb; obtain ⟨A2, k2, e2⟩ := Kd.R_slice h2; subst e2; have q2 := cellR_1 h0; have f2 := blk_frozen h0 1) | ((with_reducible refine gate_builtin (b := .append) (xs := #[.tmp 18, .tmp 19]) rfl ?_); (try (refine gate_guard (by rfl) ?_; dsimp only)); at_builtin; refine Kd.R_append Kd.string (w0 := w0) w0.heap.size rfl (.tmp 18) (.tmp 19) 24 9 (.string ⟨#[]⟩) 16 rfl Try.underlying24 info9 rfl (by decide) (by omega) (.slice A2 O.length k2) O (sOr) [.string (sOr)] (fun _ => True) (fun _ => False) rfl rfl ?aP (fun _ hk => hk.elim) ?aF ?aO ?aB ?aS ?aL ?_; (case aP => exact rfl); (case aB => exact HB.out); (case aF => intro k hk; trivial); (case aO => exact h2); (case aS => exact below_size HB.out); (case aL => omega); intro v1 w1 ho hb hg hat; obtain ⟨Az, kz, ez⟩ := Kd.R_slice ho; subst ez; simp only [List.length_append, List.length_cons, List.length_nil, Nat.zero_add] at ho hat; have b1 := blk_grown h0 hg (IsR.ne h0 h2); have f1 := blk_frozen b1 1; have d1 : w1.cell? ⟨g, 1, none⟩ = some (.slice A2 O.length k2) := (blk_cell b1 1).trans rfl))
            go_roundg k1
            case rel => exact ⟨e3, l3, O ++ [sOr], d, rfl, H, ⟨IsR.put h1 h0 hc hf h2 ho hg hat⟩, ⟨below_set hb h1⟩⟩
            case measure => omega
          · rw [if_neg c2] at h
            exact absurd h (by simp)
      · rw [if_neg c] at h
        simp only [Option.some.injEq, Prod.mk.injEq] at h
        obtain ⟨rfl, rfl, rfl, rfl⟩ := h
        have cb : (e' == 0) = false := beq_eq_false_iff_ne.mpr c
        clear c
        go_wp2
        go_ret
        exact ⟨rfl, HI.out, HB.out⟩
end Go.Proofs.Ytcpemjolabofnaa.PAll
/- The reference's Not. -/
namespace Go.Proofs.Ytcpemjolabofnaa.PAll
open Go Go.RowKit Go.Proofs.YtcpemjolabofnaaW.PrintWords Go.Proofs.YtcpemjolabofnaaW.PrintLast Go.Proofs.YtcpemjolabofnaaW.PrintMore Go.Proofs.YtcpemjolabofnaaMy Go.Proofs.Ytcpemjolabofnaa Go.Proofs.YtcpemjolabofnaaPw
set_option linter.unusedVariables false
set_option linter.unusedSimpArgs false
def rnotF (F : Rt → Option (Int × Rt)) (x : Rt) : Option (Int × Rt) :=
  (F ((rtk sNot x.1).2, x.2.1, x.2.2)).bind fun r => if r.1 = 0 ∧ (rtk sNot x.1).1 = true then (if r.2.2.1.length < 4398046511104 then some (0, r.2.1, r.2.2.1 ++ [sNot], r.2.2.2) else none) else some r
set_option maxHeartbeats 4000000 in
set_option maxRecDepth 100000 in
theorem rnot_PR (F : Rt → Option (Int × Rt)) (hF : PR 38 F) : PR 36 (rnotF F) := by
  intro g l O0 d0 re rl rO rd w0 w hI hB h
  have hu := Try.underlying24
  have HI := Aside0.mk hI
  have HB := Aside0.mk hB
  have HF := Aside0.mk hF
  clear hI hB hF
  unfold rnotF at h
  simp only at h
  obtain ⟨b, l1, ht⟩ : ∃ b l1, rtk sNot l = (b, l1) := ⟨_, _, rfl⟩
  rw [ht] at h
  simp only at h
  have HT := Aside0.mk ht
  clear ht
  obtain ⟨⟨e3, l3, O, d⟩, h3, h⟩ := Option.bind_eq_some_iff.mp h
  simp only at h3 h
  have H3 := Aside0.mk h3
  clear h3
  by_cases c : e3 = 0
  · subst c
    cases b with
    | true =>
      rw [if_pos ⟨rfl, rfl⟩] at h
      by_cases c2 : O.length < 4398046511104
      · rw [if_pos c2] at h
        simp only [Option.some.injEq, Prod.mk.injEq] at h
        obtain ⟨rfl, rfl, rfl, rfl⟩ := h
        go_enter Try.func36, Try.ntmps36
        go_wp2_with (first | (go_at_call 31; refine (Take_Q g sNot l O0 d0 true l1 HT.out w0 _ HI.out HB.out).mono ?_; rintro e w2 ⟨rfl, hi, hb⟩; clear HI HB; have HI := Aside0.mk hi; have HB := Aside0.mk hb; clear hi hb) | (go_at_call 38; refine (HF.out g l1 O0 d0 0 l3 O d w0 _ HI.out HB.out H3.out).mono ?_; rintro e w2 ⟨rfl, ⟨A, c, ov, h0, h1, hc, hf, h2⟩, hb⟩; clear HI HB; have HB := Aside0.mk hb; clear hb; obtain ⟨A2, k2, e2⟩ := Kd.R_slice h2; subst e2; have q2 := cellR_1 h0; have f2 := blk_frozen h0 1) | ((with_reducible refine gate_builtin (b := .append) (xs := #[.tmp 18, .tmp 19]) rfl ?_); (try (refine gate_guard (by rfl) ?_; dsimp only)); at_builtin; refine Kd.R_append Kd.string (w0 := w0) w0.heap.size rfl (.tmp 18) (.tmp 19) 24 9 (.string ⟨#[]⟩) 16 rfl Try.underlying24 info9 rfl (by decide) (by omega) (.slice A2 O.length k2) O (sNot) [.string (sNot)] (fun _ => True) (fun _ => False) rfl rfl ?aP (fun _ hk => hk.elim) ?aF ?aO ?aB ?aS ?aL ?_; (case aP => exact rfl); (case aB => exact HB.out); (case aF => intro k hk; trivial); (case aO => exact h2); (case aS => exact below_size HB.out); (case aL => omega); intro v1 w1 ho hb hg hat; obtain ⟨Az, kz, ez⟩ := Kd.R_slice ho; subst ez; simp only [List.length_append, List.length_cons, List.length_nil, Nat.zero_add] at ho hat; have b1 := blk_grown h0 hg (IsR.ne h0 h2); have f1 := blk_frozen b1 1; have d1 : w1.cell? ⟨g, 1, none⟩ = some (.slice A2 O.length k2) := (blk_cell b1 1).trans rfl))
        go_ret
        exact ⟨rfl, IsR.put h1 h0 hc hf h2 ho hg hat, below_set hb h1⟩
      · rw [if_neg c2] at h
        exact absurd h (by simp)
    | false =>
      rw [if_neg (by simp)] at h
      simp only [Option.some.injEq, Prod.mk.injEq] at h
      obtain ⟨rfl, rfl, rfl, rfl⟩ := h
      go_enter Try.func36, Try.ntmps36
      go_wp2_with (first | (go_at_call 31; refine (Take_Q g sNot l O0 d0 false l1 HT.out w0 _ HI.out HB.out).mono ?_; rintro e w2 ⟨rfl, hi, hb⟩; clear HI HB; have HI := Aside0.mk hi; have HB := Aside0.mk hb; clear hi hb) | (go_at_call 38; refine (HF.out g l1 O0 d0 0 l3 O d w0 _ HI.out HB.out H3.out).mono ?_; rintro e w2 ⟨rfl, hi, hb⟩; clear HI HB; have HI := Aside0.mk hi; have HB := Aside0.mk hb; clear hi hb))
      go_ret
      exact ⟨rfl, HI.out, HB.out⟩
  · rw [if_neg (fun h => c h.1)] at h
    simp only [Option.some.injEq, Prod.mk.injEq] at h
    obtain ⟨rfl, rfl, rfl, rfl⟩ := h
    have cb : (e3 == 0) = false := beq_eq_false_iff_ne.mpr c
    clear c
    go_enter Try.func36, Try.ntmps36
    go_wp2_with (first | (go_at_call 31; refine (Take_Q g sNot l O0 d0 b l1 HT.out w0 _ HI.out HB.out).mono ?_; rintro e w2 ⟨rfl, hi, hb⟩; clear HI HB; have HI := Aside0.mk hi; have HB := Aside0.mk hb; clear hi hb) | (go_at_call 38; refine (HF.out g l1 O0 d0 e3 l3 O d w0 _ HI.out HB.out H3.out).mono ?_; rintro e w2 ⟨rfl, hi, hb⟩; clear HI HB; have HI := Aside0.mk hi; have HB := Aside0.mk hb; clear hi hb))
    go_ret
    exact ⟨rfl, HI.out, HB.out⟩
end Go.Proofs.Ytcpemjolabofnaa.PAll
/- The reference's Part; the induction over how deep. -/
namespace Go.Proofs.Ytcpemjolabofnaa.PAll
open Go Go.RowKit Go.Proofs.YtcpemjolabofnaaW.PrintWords Go.Proofs.YtcpemjolabofnaaW.PrintLast Go.Proofs.YtcpemjolabofnaaW.PrintMore Go.Proofs.YtcpemjolabofnaaMy Go.Proofs.Ytcpemjolabofnaa Go.Proofs.YtcpemjolabofnaaPw
set_option linter.unusedVariables false
set_option linter.unusedSimpArgs false
def rpartG (G : Rt → Option (Int × Rt)) (x : Rt) : Option (Int × Rt) :=
  if (rtk sOpen x.1).1 = true then
    (if 0 ≤ x.2.2 ∧ x.2.2 ≤ 4294967296 then
      (if 64 < x.2.2 + 1 then some (8, (rtk sOpen x.1).2, x.2.1, x.2.2 + 1)
      else (G ((rtk sOpen x.1).2, x.2.1, x.2.2 + 1)).bind fun r => if r.1 = 0 then
        (if 0 ≤ r.2.2.2 ∧ r.2.2.2 ≤ 4294967296 then
          (if (rtk sShut r.2.1).1 = true then some (0, (rtk sShut r.2.1).2, r.2.2.1, r.2.2.2 - 1) else some (4, (rtk sShut r.2.1).2, r.2.2.1, r.2.2.2 - 1))
        else none)
      else some r)
    else none)
  else match (rtk sOpen x.1).2 with
    | [] => some (4, [], x.2.1, x.2.2)
    | y :: t => if y.size ≤ 140737488351232 then (if rTag y = true then (if x.2.1.length < 4398046511104 then some (0, t, x.2.1 ++ [y], x.2.2) else none) else some (4, y :: t, x.2.1, x.2.2)) else none
set_option maxHeartbeats 8000000 in
set_option maxRecDepth 100000 in
theorem rpart_PR (G : Rt → Option (Int × Rt)) (hG : PR 22 G) : PR 38 (rpartG G) := by
  intro g l O0 d0 re rl rO rd w0 w hI hB h
  have hu := Try.underlying24
  have HI := Aside0.mk hI
  have HB := Aside0.mk hB
  have HF := Aside0.mk hG
  clear hI hB hG
  unfold rpartG at h
  simp only at h
  obtain ⟨b, l1, ht⟩ : ∃ b l1, rtk sOpen l = (b, l1) := ⟨_, _, rfl⟩
  rw [ht] at h
  simp only at h
  have HT := Aside0.mk ht
  clear ht
  cases b with
  | true =>
    rw [if_pos rfl] at h
    by_cases c1 : 0 ≤ d0 ∧ d0 ≤ 4294967296
    · rw [if_pos c1] at h
      obtain ⟨c1a, c1b⟩ := c1
      have hw : wrap64 (d0 + 1) = d0 + 1 := w64 (by omega) (by omega)
      by_cases c2 : 64 < d0 + 1
      · rw [if_pos c2] at h
        have c2b : decide (64 < d0 + 1) = true := decide_eq_true c2
        clear c2
        simp only [Option.some.injEq, Prod.mk.injEq] at h
        obtain ⟨rfl, rfl, rfl, rfl⟩ := h
        go_enter Try.func38, Try.ntmps38
        go_wp2_with (first | (go_at_call 31; refine (Take_Q g sOpen l O0 d0 true l1 HT.out w0 _ HI.out HB.out).mono ?_; rintro e w2 ⟨rfl, hi, hb⟩; clear HI HB; obtain ⟨A, c, ov, h0, h1, hc, hf, h2⟩ := hi; have HI := Aside0.mk (IsR.set_2 (⟨A, c, ov, h0, h1, hc, hf, h2⟩ : IsR w0 w2 g l1 O0 d0) (d0 + 1)); have HB := Aside0.mk (below_set hb h1 (j := 2) (v := .int .i64 (d0 + 1))); have q3 := cellR_2 h0; have f3 := blk_frozen h0 2; clear h1 hc hf h2 hb))
        go_ret
        exact ⟨rfl, HI.out, HB.out⟩
      · rw [if_neg c2] at h
        have c2b : decide (64 < d0 + 1) = false := decide_eq_false c2
        clear c2
        obtain ⟨⟨e3, l3, O, d⟩, h3, h⟩ := Option.bind_eq_some_iff.mp h
        simp only at h3 h
        have H3 := Aside0.mk h3
        clear h3
        by_cases c : e3 = 0
        · subst c
          rw [if_pos rfl] at h
          by_cases c3 : 0 ≤ d ∧ d ≤ 4294967296
          · rw [if_pos c3] at h
            obtain ⟨c3a, c3b⟩ := c3
            have hw2 : wrap64 (d - 1) = d - 1 := w64 (by omega) (by omega)
            obtain ⟨b, l4, ht⟩ : ∃ b l4, rtk sShut l3 = (b, l4) := ⟨_, _, rfl⟩
            rw [ht] at h
            simp only at h
            have HT2 := Aside0.mk ht
            clear ht
            cases b with
            | true =>
              rw [if_pos rfl] at h
              simp only [Option.some.injEq, Prod.mk.injEq] at h
              obtain ⟨rfl, rfl, rfl, rfl⟩ := h
              go_enter Try.func38, Try.ntmps38
              go_upto_region 9 with (first | (go_at_call 31; refine (Take_Q g sOpen l O0 d0 true l1 HT.out w0 _ HI.out HB.out).mono ?_; rintro e w2 ⟨rfl, hi, hb⟩; clear HI HB; obtain ⟨A, c, ov, h0, h1, hc, hf, h2⟩ := hi; have HI := Aside0.mk (IsR.set_2 (⟨A, c, ov, h0, h1, hc, hf, h2⟩ : IsR w0 w2 g l1 O0 d0) (d0 + 1)); have HB := Aside0.mk (below_set hb h1 (j := 2) (v := .int .i64 (d0 + 1))); have q3 := cellR_2 h0; have f3 := blk_frozen h0 2; clear h1 hc hf h2 hb) | (go_at_call 22; refine (HF.out g l1 O0 (d0 + 1) 0 l3 O d w0 _ HI.out HB.out H3.out).mono ?_; clear q3 f3 h0; rintro e w3 ⟨rfl, hi, hb⟩; clear HI HB; obtain ⟨A, c, ov, h0, h1, hc, hf, h2⟩ := hi; have HI := Aside0.mk (IsR.set_2 (⟨A, c, ov, h0, h1, hc, hf, h2⟩ : IsR w0 w3 g l3 O d) (d - 1)); have HB := Aside0.mk (below_set hb h1 (j := 2) (v := .int .i64 (d - 1))); have q3 := cellR_2 h0; have f3 := blk_frozen h0 2; clear h1 hc hf h2 hb))
              go_wp2_with (first | (go_at_call 31; refine (Take_Q g sShut l3 O (d - 1) true l4 HT2.out w0 _ HI.out HB.out).mono ?_; rintro e w2 ⟨rfl, hi, hb⟩; clear HI HB; have HI := Aside0.mk hi; have HB := Aside0.mk hb; clear hi hb))
              go_ret
              exact ⟨rfl, HI.out, HB.out⟩
            | false =>
              rw [if_neg (by simp)] at h
              simp only [Option.some.injEq, Prod.mk.injEq] at h
              obtain ⟨rfl, rfl, rfl, rfl⟩ := h
              go_enter Try.func38, Try.ntmps38
              go_upto_region 9 with (first | (go_at_call 31; refine (Take_Q g sOpen l O0 d0 true l1 HT.out w0 _ HI.out HB.out).mono ?_; rintro e w2 ⟨rfl, hi, hb⟩; clear HI HB; obtain ⟨A, c, ov, h0, h1, hc, hf, h2⟩ := hi; have HI := Aside0.mk (IsR.set_2 (⟨A, c, ov, h0, h1, hc, hf, h2⟩ : IsR w0 w2 g l1 O0 d0) (d0 + 1)); have HB := Aside0.mk (below_set hb h1 (j := 2) (v := .int .i64 (d0 + 1))); have q3 := cellR_2 h0; have f3 := blk_frozen h0 2; clear h1 hc hf h2 hb) | (go_at_call 22; refine (HF.out g l1 O0 (d0 + 1) 0 l3 O d w0 _ HI.out HB.out H3.out).mono ?_; clear q3 f3 h0; rintro e w3 ⟨rfl, hi, hb⟩; clear HI HB; obtain ⟨A, c, ov, h0, h1, hc, hf, h2⟩ := hi; have HI := Aside0.mk (IsR.set_2 (⟨A, c, ov, h0, h1, hc, hf, h2⟩ : IsR w0 w3 g l3 O d) (d - 1)); have HB := Aside0.mk (below_set hb h1 (j := 2) (v := .int .i64 (d - 1))); have q3 := cellR_2 h0; have f3 := blk_frozen h0 2; clear h1 hc hf h2 hb))
              go_wp2_with (first | (go_at_call 31; refine (Take_Q g sShut l3 O (d - 1) false l4 HT2.out w0 _ HI.out HB.out).mono ?_; rintro e w2 ⟨rfl, hi, hb⟩; clear HI HB; have HI := Aside0.mk hi; have HB := Aside0.mk hb; clear hi hb))
              go_ret
              exact ⟨rfl, HI.out, HB.out⟩
          · rw [if_neg c3] at h
            exact absurd h (by simp)
        · rw [if_neg c] at h
          simp only [Option.some.injEq, Prod.mk.injEq] at h
          obtain ⟨rfl, rfl, rfl, rfl⟩ := h
          have cb : (e3 != 0) = true := bne_iff_ne.mpr c
          clear c
          go_enter Try.func38, Try.ntmps38
          go_wp2_with (first | (go_at_call 31; refine (Take_Q g sOpen l O0 d0 true l1 HT.out w0 _ HI.out HB.out).mono ?_; rintro e w2 ⟨rfl, hi, hb⟩; clear HI HB; obtain ⟨A, c, ov, h0, h1, hc, hf, h2⟩ := hi; have HI := Aside0.mk (IsR.set_2 (⟨A, c, ov, h0, h1, hc, hf, h2⟩ : IsR w0 w2 g l1 O0 d0) (d0 + 1)); have HB := Aside0.mk (below_set hb h1 (j := 2) (v := .int .i64 (d0 + 1))); have q3 := cellR_2 h0; have f3 := blk_frozen h0 2; clear h1 hc hf h2 hb) | (go_at_call 22; refine (HF.out g l1 O0 (d0 + 1) e3 l3 O d w0 _ HI.out HB.out H3.out).mono ?_; clear q3 f3 h0; rintro e w3 ⟨rfl, hi, hb⟩; clear HI HB; have HI := Aside0.mk hi; have HB := Aside0.mk hb; clear hi hb))
          go_ret
          exact ⟨rfl, HI.out, HB.out⟩
    · rw [if_neg c1] at h
      exact absurd h (by simp)
  | false =>
    rw [if_neg (by simp)] at h
    cases l1 with
    | nil =>
      simp only [Option.some.injEq, Prod.mk.injEq] at h
      obtain ⟨rfl, rfl, rfl, rfl⟩ := h
      go_enter Try.func38, Try.ntmps38
      go_wp2_with (first | (go_at_call 31; refine (Take_Q g sOpen l O0 d0 false [] HT.out w0 _ HI.out HB.out).mono ?_; rintro e w2 ⟨rfl, hi, hb⟩; clear HI HB; obtain ⟨A, c, ov, h0, h1, hc, hf, h2⟩ := hi; have HI := Aside0.mk (⟨A, c, ov, h0, h1, hc, hf, h2⟩ : IsR w0 w2 g [] O0 d0); have HB := Aside0.mk hb; have q0 : w2.cell? ⟨g, 0, none⟩ = some (.slice A 0 c) := cellR_0 h0; clear h0 h1 hc hf h2 hb))
      go_ret
      exact ⟨rfl, HI.out, HB.out⟩
    | cons y t =>
      simp only at h
      by_cases cy : y.size ≤ 140737488351232
      · rw [if_pos cy] at h
        obtain ⟨K, hK⟩ := refTag_ev y cy
        have HK := Aside0.mk (hK K (Nat.le_refl _))
        clear hK cy
        obtain ⟨n, hn⟩ : ∃ n : Nat, n = t.length + 1 := ⟨_, rfl⟩
        have HN := Aside0.mk hn
        have cn : ((n : Int) == 0) = false := beq_eq_false_iff_ne.mpr (by omega)
        have cl : (0 < (n : Int)) = True := eq_true (by omega)
        have cl2 : (0 < n) = True := eq_true (by omega)
        clear hn
        cases hr : rTag y with
        | false =>
          rw [hr] at h HK
          rw [if_neg (by simp)] at h
          simp only [Option.some.injEq, Prod.mk.injEq] at h
          obtain ⟨rfl, rfl, rfl, rfl⟩ := h
          clear hr
          go_enter Try.func38, Try.ntmps38
          go_wp2_with (first | (go_at_call 31; refine (Take_Q g sOpen l O0 d0 false (y :: t) HT.out w0 _ HI.out HB.out).mono ?_; rintro e w2 ⟨rfl, hi, hb⟩; clear HI HB; obtain ⟨A, c, ov, h0, h1, hc, hf, h2⟩ := hi; have HI := Aside0.mk (⟨A, c, ov, h0, h1, hc, hf, h2⟩ : IsR w0 w2 g (y :: t) O0 d0); have HB := Aside0.mk hb; obtain ⟨ad, rfl, hx0, hx1, hx2⟩ := IsR.first hf; have q0 : w2.cell? ⟨g, 0, none⟩ = some (.slice (some ad) n c) := by { rw [HN.out]; exact cellR_0 h0 }; clear h0 h1 hc hf h2 hb) | (go_at_call 15; refine (seicheref13_Tag.calls K y false _ HK.out).mono ?_; rintro e w3 ⟨rfl, ⟨nd, rfl⟩⟩))
          go_ret
          exact ⟨rfl, IsR.drewN HI.out _, pw_below_drewN HB.out _⟩
        | true =>
          rw [hr] at h HK
          rw [if_pos rfl] at h
          clear hr
          by_cases c4 : O0.length < 4398046511104
          · rw [if_pos c4] at h
            simp only [Option.some.injEq, Prod.mk.injEq] at h
            obtain ⟨rfl, rfl, rfl, rfl⟩ := h
            obtain ⟨i0, hi0, _, hsz, _⟩ := info_parts info9
            go_enter Try.func38, Try.ntmps38
            go_upto_region 14 with (first | (go_at_call 31; refine (Take_Q g sOpen l O0 d0 false (y :: t) HT.out w0 _ HI.out HB.out).mono ?_; rintro e w2 ⟨rfl, hi, hb⟩; clear HI HB; obtain ⟨A, c, ov, h0, h1, hc, hf, h2⟩ := hi; have HI := Aside0.mk (⟨h0, hc, hf, h2⟩ : _ ∧ _ ∧ _ ∧ _); have HB := Aside0.mk hb; obtain ⟨ad, rfl, hx0, hx1, hx2⟩ := IsR.first hf; have q0 : w2.cell? ⟨g, 0, none⟩ = some (.slice (some ad) n c) := by { rw [HN.out]; exact cellR_0 h0 }; clear h0 hc hf h2 hb) | (go_at_call 15; refine (seicheref13_Tag.calls K y true _ HK.out).mono ?_; rintro e w3 ⟨rfl, ⟨nd, rfl⟩⟩))
            obtain ⟨O, hO⟩ : ∃ O, O = O0 := ⟨_, rfl⟩
            subst hO
            obtain ⟨h0, hc, hf, h2⟩ := HI.out
            replace h0 := blk_drewN h0 nd
            replace hf := Kd.F_drewN hf nd
            replace h2 := Kd.R_drewN h2 nd
            have hB := pw_below_drewN HB.out nd
            replace q0 := pw_cell_below (pw_below_drewN (Below.refl _ _) nd) q0
            replace hx0 := pw_cell_below (pw_below_drewN (Below.refl _ _) nd) hx0
            replace hx1 := pw_cell_below (pw_below_drewN (Below.refl _ _) nd) hx1
            obtain ⟨A2, k2, e2⟩ := Kd.R_slice h2
            subst e2
            replace h0 := blk_drew h0
            replace h2 := Kd.R_drew h2
            replace hB := below_drew1 hB
            replace hf := Kd.F_drew hf
            replace q0 := pw_cell_below (below_drew1 (Below.refl _ _)) q0
            replace hx0 := pw_cell_below (below_drew1 (Below.refl _ _)) hx0
            replace hx1 := pw_cell_below (below_drew1 (Below.refl _ _)) hx1
            refine start_ (n := 16) (S := fun w' => w'.cell? ⟨g, 0, none⟩ = some (.slice (some ad) n c) ∧ w'.cell? ⟨g, 1, none⟩ = some (.slice A2 O.length k2) ∧ w'.cell? ad = some (.string y) ∧ w'.cell? (ad.add 0) = some (.string y)) (ds := [15]) #[false, false, false, false, false, false, false, false, false, false, false, false, false, false, false, false] (by kernel_rfl) rfl rfl ⟨q0, (blk_cell h0 1).trans rfl, hx0, hx1⟩ (fun hHeld => ?_)
            generalize World.drew _ = wd at h0 h2 hB hf q0 hx0 hx1 hHeld ⊢
            refine pure_ (i := 0) (N := some 49) (v := ?_) (a' := ?_) #[true, false, false, false, false, false, false, false, false, false, false, false, false, false, false, false] rfl rfl (by kernel_rfl) (fun _ _ _ h => h) (Or.inl ⟨by rfl, ?_⟩) ?_ ?_
            rotate_left
            · intro w'
              go_simp
              with_reducible rfl
            rotate_left
            · simp only [Act.put, List.setIfInBounds_toArray, List.set_cons_zero, List.set_cons_succ, i64_w, i32_w]
              rfl
            refine pure_ (i := 1) (N := some 50) (v := ?_) (a' := ?_) #[true, true, false, false, false, false, false, false, false, false, false, false, false, false, false, false] rfl rfl (by kernel_rfl) (fun _ _ _ h => h) (Or.inl ⟨by rfl, ?_⟩) ?_ ?_
            rotate_left
            · intro w'
              go_simp
              with_reducible rfl
            rotate_left
            · simp only [Act.put, List.setIfInBounds_toArray, List.set_cons_zero, List.set_cons_succ, i64_w, i32_w]
              rfl
            refine pure_ (i := 2) (N := some 51) (v := ?_) (a' := ?_) #[true, true, true, false, false, false, false, false, false, false, false, false, false, false, false, false] rfl rfl (by kernel_rfl) (fun _ _ _ h => h) (Or.inl ⟨by rfl, ?_⟩) ?_ ?_
            rotate_left
            · intro w'
              go_simp
              with_reducible rfl
            rotate_left
            · simp only [Act.put, List.setIfInBounds_toArray, List.set_cons_zero, List.set_cons_succ, i64_w, i32_w]
              rfl
            refine pure_ (i := 3) (N := some 52) (v := ?_) (a' := ?_) #[true, true, true, true, false, false, false, false, false, false, false, false, false, false, false, false] rfl rfl (by kernel_rfl) (fun _ _ _ h => h) (Or.inl ⟨by rfl, ?_⟩) ?_ ?_
            rotate_left
            · intro w'
              go_simp
              with_reducible rfl
            rotate_left
            · simp only [Act.put, List.setIfInBounds_toArray, List.set_cons_zero, List.set_cons_succ, i64_w, i32_w]
              rfl
            refine pure_ (i := 5) (N := some 54) (v := ?_) (a' := ?_) #[true, true, true, true, false, true, false, false, false, false, false, false, false, false, false, false] rfl rfl (by kernel_rfl) (fun _ _ _ h => h) (Or.inl ⟨by rfl, ?_⟩) ?_ ?_
            rotate_left
            · intro w'
              go_simp
              with_reducible rfl
            rotate_left
            · simp only [Act.put, List.setIfInBounds_toArray, List.set_cons_zero, List.set_cons_succ, i64_w, i32_w]
              rfl
            refine pure_ (i := 6) (N := some 55) (v := ?_) (a' := ?_) #[true, true, true, true, false, true, true, false, false, false, false, false, false, false, false, false] rfl rfl (by kernel_rfl) (fun _ _ _ h => h) (Or.inl ⟨by rfl, ?_⟩) ?_ ?_
            rotate_left
            · intro w'
              go_simp
              with_reducible rfl
            rotate_left
            · simp only [Act.put, List.setIfInBounds_toArray, List.set_cons_zero, List.set_cons_succ, i64_w, i32_w]
              rfl
            refine pure_ (i := 7) (N := some 56) (v := ?_) (a' := ?_) #[true, true, true, true, false, true, true, true, false, false, false, false, false, false, false, false] rfl rfl (by kernel_rfl) (fun _ _ _ h => h) (Or.inl ⟨by rfl, ?_⟩) ?_ ?_
            rotate_left
            · intro w'
              go_simp
              with_reducible rfl
            rotate_left
            · simp only [Act.put, List.setIfInBounds_toArray, List.set_cons_zero, List.set_cons_succ, i64_w, i32_w]
              rfl
            refine take_ (i := 4) (N := some 53) (v := ?_) (a' := ?_) #[true, true, true, true, true, true, true, true, false, false, false, false, false, false, false, false] rfl rfl (by kernel_rfl) (fun _ _ _ h => h) (Or.inl ⟨by rfl, ?_⟩) hHeld ?_ ?_
            rotate_left
            · rintro w' ⟨s0, s1, s2, s3⟩
              go_simp
              with_reducible rfl
            rotate_left
            · simp only [Act.put, List.setIfInBounds_toArray, List.set_cons_zero, List.set_cons_succ, i64_w, i32_w]
              rfl
            refine take_ (i := 8) (N := some 57) (v := ?_) (a' := ?_) #[true, true, true, true, true, true, true, true, true, false, false, false, false, false, false, false] rfl rfl (by kernel_rfl) (fun _ _ _ h => h) (Or.inl ⟨by rfl, ?_⟩) hHeld ?_ ?_
            rotate_left
            · rintro w' ⟨s0, s1, s2, s3⟩
              go_simp
              with_reducible rfl
            rotate_left
            · simp only [Act.put, List.setIfInBounds_toArray, List.set_cons_zero, List.set_cons_succ, i64_w, i32_w]
              rfl
            refine pure_ (i := 9) (N := some 58) (v := ?_) (a' := ?_) #[true, true, true, true, true, true, true, true, true, true, false, false, false, false, false, false] rfl rfl (by kernel_rfl) (fun _ _ _ h => h) (Or.inl ⟨by rfl, ?_⟩) ?_ ?_
            rotate_left
            · intro w'
              go_simp
              with_reducible rfl
            rotate_left
            · simp only [Act.put, List.setIfInBounds_toArray, List.set_cons_zero, List.set_cons_succ, i64_w, i32_w]
              rfl
            refine take_ (i := 10) (N := some 59) (v := ?_) (a' := ?_) #[true, true, true, true, true, true, true, true, true, true, true, false, false, false, false, false] rfl rfl (by kernel_rfl) (fun _ _ _ h => h) (Or.inl ⟨by rfl, ?_⟩) hHeld ?_ ?_
            rotate_left
            · rintro w' ⟨s0, s1, s2, s3⟩
              go_simp
              with_reducible rfl
            rotate_left
            · simp only [Act.put, List.setIfInBounds_toArray, List.set_cons_zero, List.set_cons_succ, i64_w, i32_w]
              rfl
            refine one_ (i := 11) (N := some 60) #[true, true, true, true, true, true, true, true, true, true, true, true, false, false, false, false] rfl rfl (by kernel_rfl) (by decide) (fun K hK => ?_)
            refine value_ (w1 := ?_) (v := ?_) (by rfl) rfl ?_ ?_
            rotate_left 2
            · go_simp
              constructor
              · rfl
              · rfl
            refine hK.out _ _ ⟨pw_cell_below (below_alloc (Below.refl _ _) _) q0, (blk_cell (blk_alloc h0 _) 1).trans rfl, pw_cell_below (below_alloc (Below.refl _ _) _) hx0, pw_cell_below (below_alloc (Below.refl _ _) _) hx1⟩ (fun hHeld => ?_)
            clear hK K
            refine norm_ (a' := ?_) ?_ ?_
            rotate_left
            · show Act.put _ (some 60) _ = _
              simp only [Act.put, List.setIfInBounds_toArray, List.set_cons_zero, List.set_cons_succ, i64_w, i32_w]
              rfl
            refine one_ (i := 12) (N := some 61) #[true, true, true, true, true, true, true, true, true, true, true, true, true, false, false, false] rfl rfl (by kernel_rfl) (by decide) (fun K hK => ?_)
            refine Kd.R_append_step Kd.string (w0 := w0) w0.heap.size (by rfl) (.tmp 53) (.tmp 60) 24 9 (.string ⟨#[]⟩) 16 rfl Try.underlying24 info9 rfl (by decide) (by omega) (.slice A2 O.length k2) O y [.string y] (fun _ => True) (fun _ => False) rfl rfl ?aP (fun _ hk => hk.elim) ?aF ?aO ?aB ?aS ?aL ?_
            (case aP => exact rfl)
            (case aB => exact hB)
            (case aF => intro k hk; trivial)
            (case aO => exact h2)
            (case aS => exact below_size hB)
            (case aL => omega)
            intro v1 w1 ho hb hg hat
            obtain ⟨Az, kz, ez⟩ := Kd.R_slice ho
            subst ez
            simp only [List.length_append, List.length_cons, List.length_nil, Nat.zero_add] at ho hat
            have b1 := blk_grown h0 hg (IsR.ne h0 h2)
            have f1_0 := blk_frozen b1 0
            have f1_1 := blk_frozen b1 1
            have d1_0 : w1.cell? ⟨g, 0, none⟩ = some (.slice (some ad) n c) := (cell_grown hg q0 (IsR.ne h0 h2))
            have d1_1 : w1.cell? ⟨g, 1, none⟩ = some (.slice A2 O.length k2) := (blk_cell b1 1).trans rfl
            have d1_2 := cell_grown hg hx0 hx2.2
            have d1_3 := cell_grown hg hx1 hx2.2
            refine hK.out _ _ ⟨d1_0, d1_1, d1_2, d1_3⟩ (fun hHeld => ?_)
            clear hK K
            refine norm_ (a' := ?_) ?_ ?_
            rotate_left
            · show Act.put _ (some 61) _ = _
              simp only [Act.put, List.setIfInBounds_toArray, List.set_cons_zero, List.set_cons_succ, i64_w, i32_w]
              rfl
            refine pure_ (i := 13) (N := some 62) (v := ?_) (a' := ?_) #[true, true, true, true, true, true, true, true, true, true, true, true, true, true, false, false] rfl rfl (by kernel_rfl) (fun _ _ _ h => h) (Or.inl ⟨by rfl, ?_⟩) ?_ ?_
            rotate_left
            · intro w'
              go_simp
              with_reducible rfl
            rotate_left
            · simp only [Act.put, List.setIfInBounds_toArray, List.set_cons_zero, List.set_cons_succ, i64_w, i32_w]
              rfl
            refine pure_ (i := 14) (N := some 63) (v := ?_) (a' := ?_) #[true, true, true, true, true, true, true, true, true, true, true, true, true, true, true, false] rfl rfl (by kernel_rfl) (fun _ _ _ h => h) (Or.inl ⟨by rfl, ?_⟩) ?_ ?_
            rotate_left
            · intro w'
              go_simp
              with_reducible rfl
            rotate_left
            · simp only [Act.put, List.setIfInBounds_toArray, List.set_cons_zero, List.set_cons_succ, i64_w, i32_w]
              rfl
            refine last_ (i := 15) (N := none) #[true, true, true, true, true, true, true, true, true, true, true, true, true, true, true, true] rfl rfl (by kernel_rfl) (by decide) (fun K hK => ?_)
            refine skip_ (w1 := ?_) (by rfl) rfl ?_ ?_
            rotate_left
            · go_simp
              rfl
            refine hK.out _ _ ?_
            clear hK K
            refine done_ (by kernel_rfl) ?_
            have hcut := cut_from (P := Try.prog) 24 9 .i64 Try.underlying24 hi0 1 hsz (some ad) n c 1 (by omega) (by have := HN.out; omega)
            obtain ⟨A1, hA⟩ : ∃ A1, A1 = (if c = 1 then some ad else (some ad).map (·.add 1)) := ⟨_, rfl⟩
            have e3 : (if c = (1 : Int).toNat then some ad else (some ad).map (·.add ((1 : Int).toNat * 1))) = A1 := by rw [hA]; rfl
            rw [e3] at hcut
            simp only [Int.toNat_one] at hcut
            have HP := Aside0.mk (IsR.put_cut h1 h0 hc hf h2 ho hg hat)
            have HX := Aside0.mk hA
            clear e3 hA hx2
            go_wp2
            go_ret
            refine ⟨rfl, ?_, below_set (below_set hb h1) h1⟩
            have hp := HP.out
            rw [← HX.out, show t.length = n - 1 by rw [HN.out]; rfl] at hp
            exact hp
          · rw [if_neg c4] at h
            exact absurd h (by simp)
      · rw [if_neg cy] at h
        exact absurd h (by simp)
def rpartF (m : Nat) : Nat → Rt → Option (Int × Rt)
  | 0 => fun _ => none
  | n + 1 => rpartG (rlistF sOr (rlistF sAnd (rnotF (rpartF m n)) m) m)
def rorF (m n : Nat) : Rt → Option (Int × Rt) := rlistF sOr (rlistF sAnd (rnotF (rpartF m n)) m) m
theorem rpartF_PR (m : Nat) : ∀ n, PR 38 (rpartF m n)
  | 0 => fun g l O d e1 l1 O1 d1 w0 w hI hB h => absurd h (by simp [rpartF])
  | n + 1 => rpart_PR _ (ror_PR _ (rand_PR _ (rnot_PR _ (rpartF_PR m n)) m) m)
theorem rorF_PR (m n : Nat) : PR 22 (rorF m n) := ror_PR _ (rand_PR _ (rnot_PR _ (rpartF_PR m n)) m) m
end Go.Proofs.Ytcpemjolabofnaa.PAll
/- The reference's Parse. -/
namespace Go.Proofs.Ytcpemjolabofnaa.PAll
open Go Go.RowKit Go.Proofs.YtcpemjolabofnaaW.PrintWords Go.Proofs.YtcpemjolabofnaaW.PrintLast Go.Proofs.YtcpemjolabofnaaW.PrintMore Go.Proofs.YtcpemjolabofnaaMy Go.Proofs.Ytcpemjolabofnaa Go.Proofs.YtcpemjolabofnaaPw
set_option linter.unusedVariables false
set_option linter.unusedSimpArgs false
def seicheref13_Parse.f (a0 : ByteArray) : Option (List ByteArray × Int) :=
  if 1024 < a0.size then some ([], 3) else (rorF 2000 70 (pcsS a0, [], 0)).bind fun r => if r.1 = 0 then (if r.2.1 = [] then some (r.2.2.1, 0) else some ([], 4)) else some ([], r.1)
theorem IsR.made {w W : World} {v : Value} {L : List ByteArray} (hb : Below w.heap.size w W) (h : Kd.R Kd.string 9 W w.heap.size (fun _ => True) v L) : IsR w (W.alloc (.cells #[v, .slice none 0 0, .int .i64 0] 47 (0, 0))) W.heap.size L [] 0 := by
  obtain ⟨A, c, rfl, hl, _⟩ := Kd.R_reads h
  have hf := Kd.F_elderB (Kd.R_F h) W.heap.size (Nat.le_refl _)
  exact ⟨A, c, .slice none 0 0, blk_new _ _, hb.size, hl, Kd.F_alloc (Kd.F_mono hf (fun k hk => ⟨hk.2, by simp [Value.ownBlock]⟩)) _, Kd.R_nil _ _ _ _ _⟩
set_option maxHeartbeats 4000000 in
set_option maxRecDepth 100000 in
theorem seicheref13_Parse.calls (a0 : ByteArray) (r1 : List ByteArray) (r2 : Int) (w : World) (h : seicheref13_Parse.f a0 = some (r1, r2)) :
    Calls Try.prog 12 #[.string a0] w fun e w' => ∃ v0_ : Value, e = .returned (.tuple #[v0_, .int .i64 r2]) ∧ Kd.R Kd.string 9 w' w.heap.size (fun _ => True) v0_ r1 ∧ Below w.heap.size w w' := by
  unfold seicheref13_Parse.f at h
  by_cases c : 1024 < a0.size
  · rw [if_pos c] at h
    simp only [Option.some.injEq, Prod.mk.injEq] at h
    obtain ⟨rfl, rfl⟩ := h
    have c1 : decide (1024 < (a0.size : Int)) = true := decide_eq_true (by omega)
    clear c
    go_enter Try.func12, Try.ntmps12
    go_wp2
    go_ret2
    exact ⟨_, rfl, Kd.R_nil _ _ _ _ _, Below.refl _ _⟩
  · rw [if_neg c] at h
    have c1 : decide (1024 < (a0.size : Int)) = false := decide_eq_false (by omega)
    obtain ⟨K, hK⟩ := refPieces_ev a0 (by omega)
    have HK := Aside0.mk (hK K (Nat.le_refl _))
    clear c hK
    obtain ⟨L, hL⟩ : ∃ L, L = pcsS a0 := ⟨_, rfl⟩
    rw [← hL] at h HK
    clear hL
    obtain ⟨⟨e3, l3, O, d⟩, h3, h⟩ := Option.bind_eq_some_iff.mp h
    have H3 := Aside0.mk h3
    clear h3
    simp only at h
    by_cases c : e3 = 0
    · subst c
      rw [if_pos rfl] at h
      by_cases c2 : l3 = []
      · rw [if_pos c2] at h
        simp only [Option.some.injEq, Prod.mk.injEq] at h
        obtain ⟨rfl, rfl⟩ := h
        subst c2
        go_enter Try.func12, Try.ntmps12
        go_wp2_with (first | (go_at_call 21; refine (seicheref13_Pieces.calls K a0 L _ HK.out).mono ?_; rintro e w1 ⟨v0, rfl, hr, hb⟩; obtain ⟨A9, k9, e9⟩ := Kd.R_slice hr; subst e9; have HI := Aside0.mk (IsR.made hb hr); have HB := Aside0.mk (below_alloc hb (.cells #[.slice A9 L.length k9, .slice none 0 0, .int .i64 0] 47 (0, 0))); clear hr hb) | (go_at_call 22; refine (rorF_PR 2000 70 w1.heap.size L [] 0 0 [] O d w _ HI.out HB.out H3.out).mono ?_; rintro e w3 ⟨rfl, hi, hb⟩; clear HI HB; obtain ⟨A, c, ov, h0, h1, hc, hf, h2⟩ := hi; have q0 : w3.cell? ⟨w1.heap.size, 0, none⟩ = some (.slice A 0 c) := cellR_0 h0; have q1 := cellR_1 h0; have HB := Aside0.mk hb; have HI := Aside0.mk h2; clear h0 h1 hc hf h2 hb))
        go_ret2
        exact ⟨_, rfl, HI.out, HB.out⟩
      · rw [if_neg c2] at h
        simp only [Option.some.injEq, Prod.mk.injEq] at h
        obtain ⟨rfl, rfl⟩ := h
        have C2 := Aside0.mk c2
        clear c2
        go_enter Try.func12, Try.ntmps12
        go_wp2_with (first | (go_at_call 21; refine (seicheref13_Pieces.calls K a0 L _ HK.out).mono ?_; rintro e w1 ⟨v0, rfl, hr, hb⟩; obtain ⟨A9, k9, e9⟩ := Kd.R_slice hr; subst e9; have HI := Aside0.mk (IsR.made hb hr); have HB := Aside0.mk (below_alloc hb (.cells #[.slice A9 L.length k9, .slice none 0 0, .int .i64 0] 47 (0, 0))); clear hr hb) | (go_at_call 22; refine (rorF_PR 2000 70 w1.heap.size L [] 0 0 l3 O d w _ HI.out HB.out H3.out).mono ?_; rintro e w3 ⟨rfl, hi, hb⟩; clear HI HB; obtain ⟨A, c, ov, h0, h1, hc, hf, h2⟩ := hi; obtain ⟨n, hn⟩ : ∃ n : Nat, n = l3.length := ⟨_, rfl⟩; have q0 : w3.cell? ⟨w1.heap.size, 0, none⟩ = some (.slice A n c) := by { rw [hn]; exact cellR_0 h0 }; have cz : decide (0 < n) = true := decide_eq_true (by have := List.length_pos_iff.2 C2.out; omega); have HB := Aside0.mk hb; clear h0 h1 hc hf h2 hb hn))
        go_ret2
        exact ⟨_, rfl, Kd.R_nil _ _ _ _ _, HB.out⟩
    · rw [if_neg c] at h
      simp only [Option.some.injEq, Prod.mk.injEq] at h
      obtain ⟨rfl, rfl⟩ := h
      have cb : (e3 != 0) = true := bne_iff_ne.mpr c
      have cb2 : (e3 == 0) = false := beq_eq_false_iff_ne.mpr c
      clear c
      go_enter Try.func12, Try.ntmps12
      go_wp2_with (first | (go_at_call 21; refine (seicheref13_Pieces.calls K a0 L _ HK.out).mono ?_; rintro e w1 ⟨v0, rfl, hr, hb⟩; obtain ⟨A9, k9, e9⟩ := Kd.R_slice hr; subst e9; have HI := Aside0.mk (IsR.made hb hr); have HB := Aside0.mk (below_alloc hb (.cells #[.slice A9 L.length k9, .slice none 0 0, .int .i64 0] 47 (0, 0))); clear hr hb) | (go_at_call 22; refine (rorF_PR 2000 70 w1.heap.size L [] 0 e3 l3 O d w _ HI.out HB.out H3.out).mono ?_; rintro e w3 ⟨rfl, hi, hb⟩; clear HI HB; have HB := Aside0.mk hb; clear hi hb))
      go_ret2
      exact ⟨_, rfl, Kd.R_nil _ _ _ _ _, HB.out⟩
end Go.Proofs.Ytcpemjolabofnaa.PAll
