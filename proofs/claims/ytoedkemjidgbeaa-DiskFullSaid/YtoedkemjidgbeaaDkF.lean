/- The power goes. -/
import Derived.Test.YtoedkemjidgbeaaDkE
import Derived.Laws.BitsAllLaws
namespace Go.Proofs.Ytoedkemjidgbeaa.Dk
open Go Go.RowKit Go.Proofs.YtoedkemjidgbeaaW.PrintWords Go.Proofs.YtoedkemjidgbeaaW.PrintLast Go.Proofs.YtoedkemjidgbeaaW.PrintMore Go.Proofs.YtoedkemjidgbeaaMy Go.Proofs.Ytoedkemjidgbeaa Go.Proofs.YtoedkemjidgbeaaPw Go.Proofs.Ytoedkemjidgbeaa.PAll
set_option linter.unusedVariables false
set_option linter.unusedSimpArgs false
theorem max2_m (k k' : IntKind) (x y : Int) : Builtin.max2 (.int k x) (.int k' y) = pure (.int k (max x y)) := by
  rw [max2_int]
  congr 2
  by_cases h : x < y
  · rw [if_pos h]; omega
  · rw [if_neg h]; omega
theorem min2_m (k k' : IntKind) (x y : Int) : Builtin.min2 (.int k x) (.int k' y) = pure (.int k (min x y)) := by
  rw [min2_int]
  congr 2
  by_cases h : y < x
  · rw [if_pos h]; omega
  · rw [if_neg h]; omega
theorem kept_le (keep : Int) (f : Fl) (h : f.safe ≤ f.b.length) : f.safe + kept keep f ≤ f.b.length := by unfold kept; omega
theorem kept_min (keep : Int) (f : Fl) (h : f.safe ≤ f.b.length) : min (max keep 0) ((f.b.length : Int) - (f.safe : Int)) = (kept keep f : Int) := by unfold kept; omega
theorem diff_w {m s : Nat} (h : m ≤ 1048576) (hs : s ≤ m) : wrap64 ((m : Int) - (s : Int)) = (m : Int) - (s : Int) := w64 (by omega) (by omega)
theorem sum_w {m s k : Nat} (h : m ≤ 1048576) (hs : s + k ≤ m) : wrap64 ((s : Int) + (k : Int)) = (s : Int) + (k : Int) := w64 (by omega) (by omega)
theorem cast_le {m s k : Nat} (hs : s + k ≤ m) : 0 ≤ (s : Int) + (k : Int) ∧ (s : Int) + (k : Int) ≤ (m : Int) := by omega
theorem cast_nat (s k : Nat) : ((s : Int) + (k : Int)).toNat = s + k := by omega
theorem size_le {l : List Fl} (ho : Once l) {f : Fl} (hf : f ∈ l) {r : Int} (h1 : sizes l ≤ r) (h2 : r ≤ 1048576) : f.b.length ≤ 1048576 := by
  have e1 := sizes_del ho hf
  have e2 := sizes_nonneg (delF l f.name)
  omega
set_option maxRecDepth 10000 in
theorem xor_nat : ∀ a : Fin 256, (a.val ^^^ 255 : Nat) = 255 - a.val := by decide
theorem xor_255 {x : Int} (h0 : 0 ≤ x) (h1 : x ≤ 255) : bits .xor .u8 x 255 = 255 - x := by
  rw [u8_xor x 255 h0 (by omega) (by decide) (by decide)]
  have h := xor_nat ⟨x.toNat, by omega⟩
  simp only at h
  rw [show ((255 : Int).toNat) = 255 from rfl, h]
  omega
theorem R_base0 {e base : Nat} {W : World} {v : Value} {xs : List Int} {ok : Nat → Prop} (h : bK.R e W base ok v xs) : bK.R e W 0 ok v xs := Kd.R_of_own (own_less (Kd.own_of_R h) (Nat.zero_le _)) h.1
theorem R_shape {e base : Nat} {W : World} {v : Value} {xs : List Int} {ok : Nat → Prop} (h : bK.R e W base ok v xs) : (v = .slice none 0 0 ∧ xs = []) ∨ ∃ g cap, v = .slice (some ⟨g, 0, none⟩) xs.length cap ∧ base ≤ g ∧ xs.length ≤ cap := by
  obtain ⟨inner, ho⟩ := Kd.R_own h
  rcases ho.2 with ⟨rfl, hn⟩ | ⟨g, cap, cur, rfl, hbg, hg, hnc, _⟩
  · exact .inl ⟨rfl, List.eq_nil_of_length_eq_zero hn⟩
  · exact .inr ⟨g, cap, rfl, hbg, hnc⟩
section
variable {S S1 : Nat → Prop} {W W2 W4 : World} {l : List Fl} {bl : ByteArray → Nat} {vl : ByteArray → Value}
/-- A file's row is a new one, all of it safe. -/
theorem Cells.cloned (h : Cells S W l bl vl) {f : Fl} (hf : f ∈ l) (hS : ∀ k, S k → S1 k) (hS1 : ∀ k, W.heap.size ≤ k → S1 k) {v1 : Value} {xs ys : List Int}
    (hb : Below W.heap.size W W2) (hr : bK.R 5 W2 W.heap.size (fun _ => True) v1 xs) (e4 : Only (fun k => k = bl f.name ∨ v1.ownBlock = some k) W2 W4)
    (hblk : W4.heap[bl f.name]? = some (.cells #[v1, .int .i64 (ys.length : Int)] 64 (0, 0))) (hr4 : bK.R 5 W4 0 (fun _ => True) v1 ys) :
    Cells S1 W4 (putF l ⟨f.name, ys, ys.length⟩) bl (upd vl f.name v1) := by
  have hge : ∀ k, v1.ownBlock = some k → W.heap.size ≤ k := fun k hk => by
    rcases Kd.R_base2 hr with h0 | ⟨k2, h2, h3⟩
    · rw [hk] at h0; cases h0
    · rw [hk] at h2; cases h2; exact h3
  refine h.rewrite (f' := ⟨f.name, ys, ys.length⟩) hf rfl v1 hS (fun k hk hne hro => ?_) hblk hr4 (fun k hk => .inr ⟨hge k hk, hS1 k (hge k hk)⟩) (Nat.le_refl _)
  rw [e4.block k (Nat.lt_of_lt_of_le hk hb.size) (fun h => h.elim hne (fun e => by have := hge k e; omega)), hb.block k hk]
theorem Cells.drewN (h : Cells S W l bl vl) (m : Nat) : Cells S (W.drewN m) l bl vl := h.below (pw_below_drewN (Below.refl _ _) m)
end
/-- The files behind those of a loop that has these still to come. -/
def offL (keep : Int) (torn : Bool) (l todo : List Fl) : List Fl := l.map fun f => if (findF todo f.name).isSome = true then f else lose1 keep torn f
theorem offL_all (keep : Int) (torn : Bool) (l : List Fl) : offL keep torn l l = l := by
  unfold offL
  conv => rhs; rw [← List.map_id l]
  exact List.map_congr_left (fun f hf => if_pos (findF_isSome.2 (List.mem_map.2 ⟨f, hf, rfl⟩)))
theorem offL_none (keep : Int) (torn : Bool) (l : List Fl) : offL keep torn l [] = l.map (lose1 keep torn) := List.map_congr_left (fun f hf => if_neg (by simp [findF]))
theorem offL_mem {keep : Int} {torn : Bool} {l todo : List Fl} {f : Fl} (hf : f ∈ todo) (hl : f ∈ l) : f ∈ offL keep torn l todo := List.mem_map.2 ⟨f, hl, if_pos (findF_isSome.2 (List.mem_map.2 ⟨f, hf, rfl⟩))⟩
theorem putF_map {l : List Fl} (h : Once l) {f' : Fl} (hn : f'.name ∈ l.map Fl.name) : putF l f' = l.map fun g => if g.name = f'.name then f' else g := by
  induction l with
  | nil => cases hn
  | cons x r ih =>
    unfold Once at h
    rw [List.map_cons, List.nodup_cons] at h
    unfold putF
    rw [List.map_cons]
    by_cases e : x.name = f'.name
    · rw [if_pos e, if_pos e]
      congr 1
      conv => lhs; rw [← List.map_id r]
      refine List.map_congr_left (fun g hg => ?_)
      rw [if_neg (fun e2 => h.1 (by rw [e, ← e2]; exact List.mem_map.2 ⟨g, hg, rfl⟩))]
      rfl
    · rw [if_neg e, if_neg e, ih h.2 ((List.mem_cons.1 hn).resolve_left (fun e2 => e e2.symm))]
theorem offL_name (keep : Int) (torn : Bool) (todo : List Fl) (f : Fl) : (if (findF todo f.name).isSome = true then f else lose1 keep torn f).name = f.name := by
  by_cases c : (findF todo f.name).isSome = true
  · rw [if_pos c]
  · rw [if_neg c]; rfl
theorem offL_names (keep : Int) (torn : Bool) (l todo : List Fl) : (offL keep torn l todo).map Fl.name = l.map Fl.name := by
  unfold offL
  rw [List.map_map]
  exact List.map_congr_left (fun f hf => offL_name keep torn todo f)
theorem offL_step {keep : Int} {torn : Bool} {l todo : List Fl} (ho : Once l) {f : Fl} (hf : f ∈ todo) (hl : f ∈ l) : putF (offL keep torn l todo) (lose1 keep torn f) = offL keep torn l (delF todo f.name) := by
  have h1 : Once (offL keep torn l todo) := by unfold Once; rw [offL_names]; exact ho
  rw [putF_map h1 (by rw [offL_names]; exact List.mem_map.2 ⟨f, hl, rfl⟩)]
  unfold offL
  rw [List.map_map]
  refine List.map_congr_left (fun g hg => ?_)
  simp only [Function.comp]
  rw [offL_name]
  have hd : (findF (delF todo f.name) g.name).isSome = true ↔ (findF todo g.name).isSome = true ∧ g.name ≠ f.name := by
    rw [findF_isSome, findF_isSome]
    constructor
    · intro h
      obtain ⟨x, hx, e⟩ := List.mem_map.1 h
      obtain ⟨a, b⟩ := (delF_mem todo f.name x).1 hx
      exact ⟨List.mem_map.2 ⟨x, a, e⟩, by rw [← e]; exact b⟩
    · rintro ⟨h, hne⟩
      obtain ⟨x, hx, e⟩ := List.mem_map.1 h
      exact List.mem_map.2 ⟨x, (delF_mem todo f.name x).2 ⟨hx, by rw [e]; exact hne⟩, e⟩
  by_cases e : g.name = f.name
  · have eg : g = f := by
      have a := findF_of ho hg
      have b := findF_of ho hl
      rw [e, b] at a
      exact (Option.some.inj a).symm
    subst eg
    rw [if_pos (show g.name = (lose1 keep torn g).name from rfl), if_neg (fun h => (hd.1 h).2 rfl)]
  · have e2 : ¬ g.name = (lose1 keep torn f).name := e
    rw [if_neg e2]
    by_cases c : (findF todo g.name).isSome = true
    · rw [if_pos c, if_pos (hd.2 ⟨c, e⟩)]
    · rw [if_neg c, if_neg (fun h => c (hd.1 h).1)]
end Go.Proofs.Ytoedkemjidgbeaa.Dk
