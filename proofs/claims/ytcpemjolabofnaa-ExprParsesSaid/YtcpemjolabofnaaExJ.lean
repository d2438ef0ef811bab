/- The reference's reader in memory, and its Take. -/
import Derived.Test.YtcpemjolabofnaaExC
namespace Go.Proofs.Ytcpemjolabofnaa.PAll
open Go Go.RowKit Go.Proofs.YtcpemjolabofnaaW.PrintWords Go.Proofs.YtcpemjolabofnaaW.PrintLast Go.Proofs.YtcpemjolabofnaaW.PrintMore Go.Proofs.YtcpemjolabofnaaMy Go.Proofs.Ytcpemjolabofnaa Go.Proofs.YtcpemjolabofnaaPw
set_option linter.unusedVariables false
set_option linter.unusedSimpArgs false
/-- The reader at block g: the pieces that are left (read alone), the parts (in a row of the call's own), how deep it is. -/
def IsR (w0 W : World) (g : Nat) (L O : List ByteArray) (d : Int) : Prop :=
  ∃ A c ov, W.heap[g]? = some (.cells #[.slice A L.length c, ov, .int .i64 d] 47 (0, 0)) ∧ w0.heap.size ≤ g ∧ L.length ≤ c ∧ Kd.F Kd.string W (fun k => k ≠ g ∧ some k ≠ ov.ownBlock) A L.length L ∧ Kd.R Kd.string 9 W w0.heap.size (fun _ => True) ov O
section
variable {w0 W W1 : World} {g c : Nat} {L O : List ByteArray} {d : Int} {A : Option Addr} {ov : Value}
theorem IsR.below (h : IsR w0 W g L O d) (hb : Below W.heap.size W W1) : IsR w0 W1 g L O d := by
  obtain ⟨A, c, ov, h0, h1, hc, hf, h2⟩ := h
  exact ⟨A, c, ov, blk_below h0 hb, h1, hc, Kd.F_below hf hb, Kd.R_below h2 hb⟩
theorem IsR.drewN (h : IsR w0 W g L O d) (m : Nat) : IsR w0 (W.drewN m) g L O d := h.below (pw_below_drewN (Below.refl _ _) m)
theorem IsR.rows_set {v : Value} {ok : Nat → Prop} {xs : List ByteArray} {cs : Array Value} {B : Nat} (h0 : W.heap[g]? = some (.cells cs 47 (0, 0))) (h : Kd.R Kd.string 9 W B ok v xs) (j : Nat) (u : Value) : Kd.R Kd.string 9 (W.setCell ⟨g, j, none⟩ u) B ok v xs :=
  Kd.R_set h h0 (by intro q hq; simp [Kd.string, Kd.scalar] at hq; omega) j u
theorem IsR.ne {ok : Nat → Prop} {xs : List ByteArray} {cs : Array Value} {B : Nat} (h0 : W.heap[g]? = some (.cells cs 47 (0, 0))) (h : Kd.R Kd.string 9 W B ok ov xs) : some g ≠ ov.ownBlock := by
  intro e
  obtain ⟨inner, ho⟩ := Kd.R_own h
  obtain ⟨cells, hc⟩ := own_typed ho g e.symm
  rw [h0] at hc
  simp at hc
theorem IsR.set_2 (h : IsR w0 W g L O d) (x : Int) : IsR w0 (W.setCell ⟨g, 2, none⟩ (.int .i64 x)) g L O x := by
  obtain ⟨A, c, ov, h0, h1, hc, hf, h2⟩ := h
  exact ⟨A, c, ov, blk_set h0 2 _, h1, hc, Kd.F_far (p := ⟨g, 2, none⟩) hf (fun k hk => hk.1) _, IsR.rows_set h0 h2 2 _⟩
theorem cellR_0 (h : W.heap[g]? = some (.cells #[.slice A L.length c, ov, .int .i64 d] 47 (0, 0))) : W.cell? ⟨g, 0, none⟩ = some (.slice A L.length c) := (blk_cell h 0).trans rfl
theorem cellR_1 (h : W.heap[g]? = some (.cells #[.slice A L.length c, ov, .int .i64 d] 47 (0, 0))) : W.cell? ⟨g, 1, none⟩ = some ov := (blk_cell h 1).trans rfl
theorem cellR_2 (h : W.heap[g]? = some (.cells #[.slice A L.length c, ov, .int .i64 d] 47 (0, 0))) : W.cell? ⟨g, 2, none⟩ = some (.int .i64 d) := (blk_cell h 2).trans rfl
/-- A part is put behind the parts, and stored. -/
theorem IsR.put {v1 : Value} {x : ByteArray} (hg0 : w0.heap.size ≤ g) (h0 : W.heap[g]? = some (.cells #[.slice A L.length c, ov, .int .i64 d] 47 (0, 0))) (hc : L.length ≤ c) (hf : Kd.F Kd.string W (fun k => k ≠ g ∧ some k ≠ ov.ownBlock) A L.length L) (h2 : Kd.R Kd.string 9 W w0.heap.size (fun _ => True) ov O)
    (ho : Kd.R Kd.string 9 W1 w0.heap.size (fun _ => True) v1 (O ++ [x])) (hg : W.grownBy W1 ov.ownBlock) (hat : v1.ownBlock = ov.ownBlock ∨ ∃ b, v1.ownBlock = some b ∧ W.heap.size ≤ b) : IsR w0 (W1.setCell ⟨g, 1, none⟩ v1) g L (O ++ [x]) d := by
  have b1 := blk_grown h0 hg (IsR.ne h0 h2)
  exact ⟨A, c, v1, blk_set b1 1 v1, hg0, hc, Kd.F_far (p := ⟨g, 1, none⟩) (Kd.F_after hf hg hat) (fun k hk => hk.1) _, IsR.rows_set b1 ho 1 v1⟩
/-- The first piece is taken off. -/
theorem IsR.cut {x : ByteArray} (h1 : w0.heap.size ≤ g) (h0 : W.heap[g]? = some (.cells #[.slice A (x :: L).length c, ov, .int .i64 d] 47 (0, 0))) (hc : (x :: L).length ≤ c) (hf : Kd.F Kd.string W (fun k => k ≠ g ∧ some k ≠ ov.ownBlock) A (x :: L).length (x :: L)) (h2 : Kd.R Kd.string 9 W w0.heap.size (fun _ => True) ov O) :
    IsR w0 (W.setCell ⟨g, 0, none⟩ (.slice (if c = 1 then A else A.map (·.add 1)) L.length (c - 1))) g L O d := by
  have hf1 := Kd.F_cut (m := 1) hf (by simp) hc
  exact ⟨_, c - 1, ov, blk_set h0 0 _, h1, by have h_ := hc; simp only [List.length_cons] at h_; omega, Kd.F_far (p := ⟨g, 0, none⟩) hf1 (fun k hk => hk.1) _, IsR.rows_set h0 h2 0 _⟩
/-- The first piece is put behind the parts, then taken off. -/
theorem IsR.put_cut {v1 : Value} {x : ByteArray} (hg0 : w0.heap.size ≤ g) (h0 : W.heap[g]? = some (.cells #[.slice A (x :: L).length c, ov, .int .i64 d] 47 (0, 0))) (hc : (x :: L).length ≤ c) (hf : Kd.F Kd.string W (fun k => k ≠ g ∧ some k ≠ ov.ownBlock) A (x :: L).length (x :: L)) (h2 : Kd.R Kd.string 9 W w0.heap.size (fun _ => True) ov O)
    (ho : Kd.R Kd.string 9 W1 w0.heap.size (fun _ => True) v1 (O ++ [x])) (hg : W.grownBy W1 ov.ownBlock) (hat : v1.ownBlock = ov.ownBlock ∨ ∃ b, v1.ownBlock = some b ∧ W.heap.size ≤ b) : IsR w0 ((W1.setCell ⟨g, 1, none⟩ v1).setCell ⟨g, 0, none⟩ (.slice (if c = 1 then A else A.map (·.add 1)) L.length (c - 1))) g L (O ++ [x]) d := by
  have b1 := blk_grown h0 hg (IsR.ne h0 h2)
  exact IsR.cut hg0 (blk_set b1 1 v1) hc (Kd.F_far (p := ⟨g, 1, none⟩) (Kd.F_after hf hg hat) (fun k hk => hk.1) _) (IsR.rows_set b1 ho 1 v1)
/-- The first piece. -/
theorem IsR.first {x : ByteArray} {ok : Nat → Prop} (hf : Kd.F Kd.string W ok A (x :: L).length (x :: L)) : ∃ ad, A = some ad ∧ W.cell? ad = some (.string x) ∧ W.cell? (ad.add 0) = some (.string x) ∧ ok ad.block := by
  obtain ⟨ad, cs, rfl, hl, hk, hcell, hok⟩ := Kd.F_get hf x 0 (by omega) (by simp only [List.length_cons]; omega)
  have h1 := hk.now
  simp only [Int.toNat_zero, List.getD_cons_zero] at h1
  have e : cs = [.string x] := h1
  subst e
  have h3 := hcell 0 (.string x) rfl
  simp only [Int.toNat_zero, Nat.zero_mul, Nat.add_zero] at h3
  refine ⟨ad, rfl, ?_, h3, hok (by decide)⟩
  have e : ad.add 0 = ad := by simp [Addr.add]
  rw [e] at h3
  exact h3
end
abbrev Rt := List ByteArray × List ByteArray × Int
def rtk (s : ByteArray) : List ByteArray → Bool × List ByteArray
  | [] => (false, [])
  | x :: t => if x = s then (true, t) else (false, x :: t)
set_option maxHeartbeats 2000000 in
set_option maxRecDepth 100000 in
theorem Take_Q (g : Nat) (s : ByteArray) (L O : List ByteArray) (d : Int) (b : Bool) (L2 : List ByteArray) (ht : rtk s L = (b, L2)) (w0 w : World) (hI : IsR w0 w g L O d) (hB : Below w0.heap.size w0 w) :
    Calls Try.prog 31 #[.pointer (some ⟨g, 0, none⟩), .string s] w fun e w' => e = .returned (.bool b) ∧ IsR w0 w' g L2 O d ∧ Below w0.heap.size w0 w' := by
  have HB := Aside0.mk hB
  clear hB
  obtain ⟨A, c, ov, h0, h1, hc, hf, h2⟩ := hI
  cases L with
  | nil =>
    simp only [rtk, Prod.mk.injEq] at ht
    obtain ⟨rfl, rfl⟩ := ht
    have HI := Aside0.mk (⟨A, c, ov, h0, h1, hc, hf, h2⟩ : IsR w0 w g [] O d)
    have z0 : w.cell? ⟨g, 0, none⟩ = some (.slice A 0 c) := cellR_0 h0
    clear h0 hc hf h2
    go_enter Try.func31, Try.ntmps31
    go_wp2
    go_ret
    exact ⟨rfl, HI.out, HB.out⟩
  | cons x t =>
    obtain ⟨ad, rfl, hx0, hx1, hx2⟩ := IsR.first hf
    simp only [rtk] at ht
    obtain ⟨n, hn⟩ : ∃ n : Nat, n = t.length + 1 := ⟨_, rfl⟩
    have z0 : w.cell? ⟨g, 0, none⟩ = some (.slice (some ad) n c) := by rw [hn]; exact cellR_0 h0
    have cn : ((n : Int) == 0) = false := beq_eq_false_iff_ne.mpr (by omega)
    have cl : (0 < (n : Int)) = True := eq_true (by omega)
    have cl2 : (0 < n) = True := eq_true (by omega)
    by_cases e : x = s
    · rw [if_pos e] at ht
      simp only [Prod.mk.injEq] at ht
      obtain ⟨rfl, rfl⟩ := ht
      have e1 : (x.toList == s.toList) = true := beq_iff_eq.mpr (by rw [e])
      have e2 : (x.toList != s.toList) = false := bne_eq_false_iff_eq.mpr (by rw [e])
      obtain ⟨i0, hi0, _, hsz, _⟩ := info_parts info9
      have hcut := cut_from (P := Try.prog) 24 9 .i64 Try.underlying24 hi0 1 hsz (some ad) n c 1 (by omega) (by omega)
      obtain ⟨A1, hA⟩ : ∃ A1, A1 = (if c = 1 then some ad else (some ad).map (·.add 1)) := ⟨_, rfl⟩
      have e3 : (if c = (1 : Int).toNat then some ad else (some ad).map (·.add ((1 : Int).toNat * 1))) = A1 := by rw [hA]; rfl
      rw [e3] at hcut
      simp only [Int.toNat_one] at hcut
      have HI := Aside0.mk (show IsR w0 (w.setCell ⟨g, 0, none⟩ (.slice A1 (n - 1) (c - 1))) g t O d from by rw [hA, hn]; exact IsR.cut h1 h0 hc hf h2)
      have H1 := Aside0.mk h1
      have f0 := blk_frozen h0 0
      clear h0 hc hf h2 e3 hA hn h1 e
      go_enter Try.func31, Try.ntmps31
      go_wp2
      go_ret
      exact ⟨rfl, HI.out, below_set HB.out H1.out⟩
    · rw [if_neg e] at ht
      simp only [Prod.mk.injEq] at ht
      obtain ⟨rfl, rfl⟩ := ht
      have e1 : (x.toList == s.toList) = false := beq_eq_false_iff_ne.mpr (fun h => e (ba_inj h))
      have e2 : (x.toList != s.toList) = true := bne_iff_ne.mpr (fun h => e (ba_inj h))
      have HI := Aside0.mk (⟨_, c, ov, h0, h1, hc, hf, h2⟩ : IsR w0 w g (x :: t) O d)
      clear h0 hc hf h2 e hn
      go_enter Try.func31, Try.ntmps31
      go_wp2
      go_ret
      exact ⟨rfl, HI.out, HB.out⟩
end Go.Proofs.Ytcpemjolabofnaa.PAll
