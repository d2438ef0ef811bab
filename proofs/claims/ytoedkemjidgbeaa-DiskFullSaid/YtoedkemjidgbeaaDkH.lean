/- Off. -/
import Derived.Test.YtoedkemjidgbeaaDkG
namespace Go.Proofs.Ytoedkemjidgbeaa.Dk
open Go Go.RowKit Go.Proofs.YtoedkemjidgbeaaW.PrintWords Go.Proofs.YtoedkemjidgbeaaW.PrintLast Go.Proofs.YtoedkemjidgbeaaW.PrintMore Go.Proofs.YtoedkemjidgbeaaMy Go.Proofs.Ytoedkemjidgbeaa Go.Proofs.YtoedkemjidgbeaaPw Go.Proofs.Ytoedkemjidgbeaa.PAll
attribute [local go_sem] max2_m min2_m max_two min_two
set_option linter.unusedVariables false
set_option linter.unusedSimpArgs false
theorem infoB : (Try.prog.info? 5).map (fun i => (i.zero, i.size, i.bytes)) = some (some (.int .u8 0), 1, 1) := by kernel_rfl
section
variable {S : Nat → Prop} {w : World} {g : Nat} {d : DS} {mb n : Nat} {D : DataW Unit} {bl : ByteArray → Nat} {vl : ByteArray → Value}
set_option maxHeartbeats 4000000 in
set_option maxRecDepth 100000 in
theorem Off_Q (h : DevW S w g d mb n D bl vl) (hok : d.Fit) (keep : Int) (torn : Bool) : Calls Try.prog 16 #[.pointer (some ⟨g, 0, none⟩), .int .i64 keep, .bool torn] w fun e w' => e = .returned (.tuple #[]) ∧ DevAt (Grow S w) w' g (d.off keep torn) ∧ Only S w w' := by
  have z0 : w.cell? ⟨g, 0, none⟩ = some (.map (some mb)) := h.cell 0
  have z2 : w.cell? ⟨g, 2, none⟩ = some (.bool d.down) := h.cell 2
  have hu := Try.underlying22
  have hown := h.own
  have HW := Aside0.mk h
  have HOk := Aside0.mk hok
  clear h hok
  obtain ⟨dn, hd⟩ : ∃ b, b = d.down := ⟨_, rfl⟩
  rw [← hd] at z2
  cases dn with
  | true =>
    have e : d.off keep torn = d := if_pos hd.symm
    rw [e]
    clear e hown z0 hd
    go_enter Try.func16, Try.ntmps16
    go_wp2
    (try simp only [Exit.inBlock, Exit.then]); refine bodyPost_ret (results_none rfl _ _ _) rfl ?_
    exact ⟨rfl, (HW.out.mono (fun _ h => .inl h)).at, Only.refl _ _⟩
  | false =>
    have HD := Aside0.mk hd.symm
    clear hd
    go_enter Try.func16, Try.ntmps16
    go_wp2_with (first | (at_range; refine wpList_range_own _ rfl _ 59 rfl 9 62 keyed Try.underlying59 ptrR mb n D rfl hown ?_; intro w1 hrg hg hs) | go_in)
    go_frame
    go_loopw [7, 8] (fun _ _ wr => ∃ left cnt todo vl', OffAt S w g d mb n D bl keep torn left cnt todo vl' wr)
      (fun _ _ wr => wr.rangeLeft mb w.heap.size)
    case atStart =>
      have hb : Below w.heap.size w w1 := (Below.refl _ _).grown hg (Nat.le_refl _) (fun k hk => by cases hk)
      have hw1 := HW.out.below hb
      exact ⟨_, _, d.files, vl, hrg, Rest.start HW.out.rep HW.out.cells.1, by rw [offL_all]; exact hw1.cells.mono (fun _ h => .inl h), hw1.blk, (Only.refl _ _).below hb⟩
    case round =>
      clear hown z0 z2
      obtain ⟨left, cnt, todo, vl', HA⟩ := hrel
      have hrg := HA.rg
      have HA := Aside0.mk HA
      go_wp2_with (first
        | (at_next; refine wpList_next_ranges _ rfl _ rfl 9 keyed ptrR id id (fun key _ _ => ⟨key, rfl⟩) (fun v _ _ => ⟨v, rfl⟩) mb w.heap.size n _ _ _ rfl hrg ?_ ?_)
        | go_in)
      · intro hc0 hl0
        have e0 := HA.out.rest.done hl0
        subst e0
        have hC := HA.out.cells
        rw [offL_none] at hC
        have hD : DevW (Grow S w) wr g { d with files := d.files.map (lose1 keep torn) } mb n D bl vl' := ⟨HA.out.blk, .inl HW.out.sg, .inl HW.out.sm, HA.out.rg.owns, HW.out.cnt, HW.out.rep.names (fun s => by rw [show (d.files.map (lose1 keep torn)).map Fl.name = d.files.map Fl.name by rw [List.map_map]; rfl]) (by rw [List.length_map]), hC⟩
        have y2 : wr.cell? ⟨g, 2, none⟩ = some (.bool d.down) := hD.cell 2
        have y4 : wr.cell? ⟨g, 4, none⟩ = some (.int .i64 d.fuse) := hD.cell 4
        have y2f := hD.frozen 2
        have y4f := hD.frozen 4
        have h2 := hD.set_ { d with files := d.files.map (lose1 keep torn), down := true } 2 (.bool true) rfl (Int.le_refl _) rfl
        have h4 := h2.set_ { d with files := d.files.map (lose1 keep torn), down := true, fuse := 0 } 4 (.int .i64 0) rfl (Int.le_refl _) rfl
        have H4 := Aside0.mk h4
        have HO := Aside0.mk ((HA.out.only.setCell (g := g) (j := 2) (.inl HW.out.sg) (.bool true)).setCell (g := g) (j := 4) (.inl HW.out.sg) (.int .i64 0))
        have e : d.off keep torn = { d with files := d.files.map (lose1 keep torn), down := true, fuse := 0 } := if_neg (by rw [HD.out]; simp)
        have HE := Aside0.mk e
        clear hC hD h2 h4 e hl0
        go_wp2
        go_end0
        refine ⟨rfl, ?_, HO.out⟩
        rw [HE.out]
        exact H4.out.at
      · intro x c kl yd yp w1 cnt1 hkey hlx hv hat hrg1 hlt hg1 hs1 hen
        obtain ⟨f, hf, rfl⟩ := HA.out.rest.took HW.out.rep hlx
        have hfl := (HA.out.rest.mem f hf).1
        have e := elem_ptr (c := c) HW.out.rep hfl hv hat
        subst e
        change (Instr.entry (.pointer (some ⟨w.heap.size, 0, none⟩))).run Try.prog w1 = .ok (.tuple #[x, .pointer (some ⟨bl f.name, 0, none⟩)]) w1 at hen
        have hC1 : Cells (Grow S w) w1 (offL keep torn d.files todo) bl vl' := HA.out.cells.move (fun f hf k hk => hg1.block k (HA.out.cells.both_lt hf hk) (fun e => HA.out.cells.notIter hrg.iter hf hk (Option.some.inj e)))
        have hO1 : Only S w w1 := HA.out.only.grown hg1 (fun k hk => by cases hk; exact .inr (Nat.le_refl _))
        have hB1 : w1.heap[g]? = some (.cells (devCells mb d) 61 (0, 0)) := by
          rw [hg1.block g (blk_lt HA.out.blk) (fun e => by have e := Option.some.inj e; have h1 := blk_lt HW.out.blk; omega)]
          exact HA.out.blk
        obtain ⟨q1, q2, q3, q4, q5⟩ := hC1.2.1 f (offL_mem hf hfl)
        obtain ⟨A, cc, ev⟩ := Kd.R_slice q3
        have zf : w1.cell? ⟨bl f.name, 0, none⟩ = some (.slice A f.b.length cc) := by
          rw [← ev]
          exact (blk_cell q1 0).trans rfl
        have zs : w1.cell? ⟨bl f.name, 1, none⟩ = some (.int .i64 (f.safe : Int)) := (blk_cell q1 1).trans rfl
        have zff := blk_frozen q1 0
        have zsf := blk_frozen q1 1
        have hlen := size_le HW.out.cells.1 hfl HOk.out.fits HOk.out.room
        have hkle := kept_le keep f q5
        have hw1 := diff_w hlen q5
        have hmin := kept_min keep f q5
        have hw2 := sum_w hlen hkle
        obtain ⟨i0, hi0, _, hsz, _⟩ := info_parts infoB
        have hcc : f.b.length ≤ cc := by
          rcases R_shape q3 with ⟨e1, e2⟩ | ⟨g0, cap, e1, _, e2⟩
          · rw [e2]; exact Nat.zero_le _
          · rw [ev] at e1
            injection e1 with _ _ e1
            rw [e1]; exact e2
        have hA0 : A = none → f.b.length = 0 ∧ cc = 0 := by
          rintro rfl
          rcases R_shape q3 with ⟨e1, e2⟩ | ⟨g0, cap, e1, _, e2⟩
          · rw [ev] at e1
            injection e1 with _ e3 e4
            exact ⟨e3, e4⟩
          · rw [ev] at e1
            injection e1 with e1
            cases e1
        have hcut := cut_to (P := Try.prog) 22 5 .i64 hu hi0 A f.b.length cc ((f.safe : Int) + (kept keep f : Int)) (cast_le hkle).1 (cast_le hkle).2 hcc
        have hCt : bK.C w1 A (f.safe + kept keep f) (f.b.take (f.safe + kept keep f)) := by
          rw [ev] at q3
          have h1 := Kd.C_take (m := f.safe + kept keep f) (Kd.R_reads' q3).2.2 hkle
          rw [List.length_take, Nat.min_eq_left hkle] at h1
          exact h1
        have e3 : ((f.safe : Int) + (kept keep f : Int)).toNat = f.safe + kept keep f := cast_nat _ _
        rw [e3] at hcut
        have HC1 := Aside0.mk hC1
        have HO1 := Aside0.mk hO1
        have HB1 := Aside0.mk hB1
        have HF := Aside0.mk hf
        have HFl := Aside0.mk hfl
        have HQ1 := Aside0.mk q1
        have HQ3 := Aside0.mk q3
        have HLen := Aside0.mk hlen
        have HKle := Aside0.mk hkle
        have HA0 := Aside0.mk hA0
        have HCt := Aside0.mk hCt
        have HRs := Aside0.mk (HA.out.rest.strike f)
        obtain ⟨k, hk⟩ : ∃ k, k = kept keep f := ⟨_, rfl⟩
        have HK := Aside0.mk hk
        rw [← hk] at hmin hw2 hcut
        obtain ⟨b, hb⟩ : ∃ b, b = bl f.name := ⟨_, rfl⟩
        have HBl := Aside0.mk hb
        rw [← hb] at hen zf zs zff zsf
        obtain ⟨m, hm⟩ : ∃ m, m = f.b.length := ⟨_, rfl⟩
        have HM := Aside0.mk hm
        rw [← hm] at zf hmin hw1 hcut
        obtain ⟨s, hs⟩ : ∃ s, s = f.safe := ⟨_, rfl⟩
        have HS := Aside0.mk hs
        rw [← hs] at zs hmin hw1 hw2 hcut
        clear q1 q2 q3 q4 q5 hm hb hs hk hf hfl hat hv hkey hlx ev hC1 hO1 hB1 hlen hkle hA0 hCt hcc e3 hi0 hsz
        go_wp2
        go_region
        go_wp2
        have zf1 : w1.drew.cell? ⟨b, 0, none⟩ = some (.slice A m cc) := zf
        have zs1 : w1.drew.cell? ⟨b, 1, none⟩ = some (.int .i64 (s : Int)) := zs
        refine start_ (n := 16) (S := fun w' => w'.cell? ⟨b, 0, none⟩ = some (.slice A m cc) ∧ w'.cell? ⟨b, 1, none⟩ = some (.int .i64 (s : Int))) (ds := [15]) #[false, false, false, false, false, false, false, false, false, false, false, false, false, false, false, false] (by kernel_rfl) rfl rfl ⟨zf1, zs1⟩ (fun hHeld => ?_)
        refine pure_ (i := 0) (N := some 39) (v := ?_) (a' := ?_) #[true, false, false, false, false, false, false, false, false, false, false, false, false, false, false, false] rfl rfl (by kernel_rfl) (fun _ _ _ h => h) (Or.inl ⟨by rfl, ?_⟩) ?_ ?_
        rotate_left
        · intro w'
          go_simp
          with_reducible rfl
        rotate_left
        · simp only [Act.put, List.setIfInBounds_toArray, List.set_cons_zero, List.set_cons_succ, i64_w, i32_w]
          rfl
        refine pure_ (i := 1) (N := some 40) (v := ?_) (a' := ?_) #[true, true, false, false, false, false, false, false, false, false, false, false, false, false, false, false] rfl rfl (by kernel_rfl) (fun _ _ _ h => h) (Or.inl ⟨by rfl, ?_⟩) ?_ ?_
        rotate_left
        · intro w'
          go_simp
          with_reducible rfl
        rotate_left
        · simp only [Act.put, List.setIfInBounds_toArray, List.set_cons_zero, List.set_cons_succ, i64_w, i32_w]
          rfl
        refine pure_ (i := 2) (N := some 41) (v := ?_) (a' := ?_) #[true, true, true, false, false, false, false, false, false, false, false, false, false, false, false, false] rfl rfl (by kernel_rfl) (fun _ _ _ h => h) (Or.inl ⟨by rfl, ?_⟩) ?_ ?_
        rotate_left
        · intro w'
          go_simp
          with_reducible rfl
        rotate_left
        · simp only [Act.put, List.setIfInBounds_toArray, List.set_cons_zero, List.set_cons_succ, i64_w, i32_w]
          rfl
        refine pure_ (i := 3) (N := some 42) (v := ?_) (a' := ?_) #[true, true, true, true, false, false, false, false, false, false, false, false, false, false, false, false] rfl rfl (by kernel_rfl) (fun _ _ _ h => h) (Or.inl ⟨by rfl, ?_⟩) ?_ ?_
        rotate_left
        · intro w'
          go_simp
          with_reducible rfl
        rotate_left
        · simp only [Act.put, List.setIfInBounds_toArray, List.set_cons_zero, List.set_cons_succ, i64_w, i32_w]
          rfl
        refine take_ (i := 4) (N := some 43) (v := ?_) (a' := ?_) #[true, true, true, true, true, false, false, false, false, false, false, false, false, false, false, false] rfl rfl (by kernel_rfl) (fun _ _ _ h => h) (Or.inl ⟨by rfl, ?_⟩) hHeld ?_ ?_
        rotate_left
        · intro w' s0
          obtain ⟨y0, y1⟩ := s0
          go_simp
          with_reducible rfl
        rotate_left
        · simp only [Act.put, List.setIfInBounds_toArray, List.set_cons_zero, List.set_cons_succ, i64_w, i32_w]
          rfl
        refine pure_ (i := 5) (N := some 44) (v := ?_) (a' := ?_) #[true, true, true, true, true, true, false, false, false, false, false, false, false, false, false, false] rfl rfl (by kernel_rfl) (fun _ _ _ h => h) (Or.inl ⟨by rfl, ?_⟩) ?_ ?_
        rotate_left
        · intro w'
          go_simp
          with_reducible rfl
        rotate_left
        · simp only [Act.put, List.setIfInBounds_toArray, List.set_cons_zero, List.set_cons_succ, i64_w, i32_w]
          rfl
        refine pure_ (i := 6) (N := some 45) (v := ?_) (a' := ?_) #[true, true, true, true, true, true, true, false, false, false, false, false, false, false, false, false] rfl rfl (by kernel_rfl) (fun _ _ _ h => h) (Or.inl ⟨by rfl, ?_⟩) ?_ ?_
        rotate_left
        · intro w'
          go_simp
          with_reducible rfl
        rotate_left
        · simp only [Act.put, List.setIfInBounds_toArray, List.set_cons_zero, List.set_cons_succ, i64_w, i32_w]
          rfl
        refine pure_ (i := 7) (N := some 46) (v := ?_) (a' := ?_) #[true, true, true, true, true, true, true, true, false, false, false, false, false, false, false, false] rfl rfl (by kernel_rfl) (fun _ _ _ h => h) (Or.inl ⟨by rfl, ?_⟩) ?_ ?_
        rotate_left
        · intro w'
          go_simp
          with_reducible rfl
        rotate_left
        · simp only [Act.put, List.setIfInBounds_toArray, List.set_cons_zero, List.set_cons_succ, i64_w, i32_w]
          rfl
        refine take_ (i := 8) (N := some 47) (v := ?_) (a' := ?_) #[true, true, true, true, true, true, true, true, true, false, false, false, false, false, false, false] rfl rfl (by kernel_rfl) (fun _ _ _ h => h) (Or.inl ⟨by rfl, ?_⟩) hHeld ?_ ?_
        rotate_left
        · intro w' s0
          obtain ⟨y0, y1⟩ := s0
          go_simp
          with_reducible rfl
        rotate_left
        · simp only [Act.put, List.setIfInBounds_toArray, List.set_cons_zero, List.set_cons_succ, i64_w, i32_w]
          rfl
        refine pure_ (i := 9) (N := some 48) (v := ?_) (a' := ?_) #[true, true, true, true, true, true, true, true, true, true, false, false, false, false, false, false] rfl rfl (by kernel_rfl) (fun _ _ _ h => h) (Or.inl ⟨by rfl, ?_⟩) ?_ ?_
        rotate_left
        · intro w'
          go_simp
          with_reducible rfl
        rotate_left
        · simp only [Act.put, List.setIfInBounds_toArray, List.set_cons_zero, List.set_cons_succ, i64_w, i32_w]
          rfl
        refine pure_ (i := 10) (N := some 49) (v := ?_) (a' := ?_) #[true, true, true, true, true, true, true, true, true, true, true, false, false, false, false, false] rfl rfl (by kernel_rfl) (fun _ _ _ h => h) (Or.inl ⟨by rfl, ?_⟩) ?_ ?_
        rotate_left
        · intro w'
          go_simp
          with_reducible rfl
        rotate_left
        · simp only [Act.put, List.setIfInBounds_toArray, List.set_cons_zero, List.set_cons_succ, i64_w, i32_w]
          rfl
        refine pure_ (i := 11) (N := some 50) (v := ?_) (a' := ?_) #[true, true, true, true, true, true, true, true, true, true, true, true, false, false, false, false] rfl rfl (by kernel_rfl) (fun _ _ _ h => h) (Or.inl ⟨by rfl, ?_⟩) ?_ ?_
        rotate_left
        · intro w'
          go_simp
          with_reducible rfl
        rotate_left
        · simp only [Act.put, List.setIfInBounds_toArray, List.set_cons_zero, List.set_cons_succ, i64_w, i32_w]
          rfl
        have HCt2 := Aside0.mk (show bK.C w1.drew.drew A (s + k) (f.b.take (f.safe + kept keep f)) from by rw [HS.out, HK.out]; exact HCt.out)
        have HA2 := Aside0.mk (show A = none → s + k = 0 ∧ cc = 0 from fun h => by have h1 := HA0.out h; have h2 := HKle.out; have h3 := HS.out; have h4 := HK.out; exact ⟨by omega, h1.2⟩)
        have HL2 := Aside0.mk (show s + k ≤ 4294967296 from by have h1 := HLen.out; have h2 := HKle.out; have h3 := HS.out; have h4 := HK.out; omega)
        refine one_ (i := 12) (N := some 51) #[true, true, true, true, true, true, true, true, true, true, true, true, true, false, false, false] rfl rfl (by kernel_rfl) (by decide) (fun K hK => ?_)
        refine goes_ Try.func35 (by kernel_rfl) rfl #[.slice A (s + k) cc] (by rfl) rfl rfl (by (try simp only [List.map_toArray, List.map_cons, List.map_nil]); first | done | rfl) ?_
        refine (Clone_Q _ A (s + k) cc _ HCt2.out HA2.out HL2.out).mono ?_
        rintro e w2 ⟨v1, rfl, hr, hb⟩
        obtain ⟨A2, c2, ev2⟩ : ∃ A2 c2, v1 = .slice A2 (s + k) c2 := by
          obtain ⟨A2, c2, e⟩ := Kd.R_slice hr
          exact ⟨A2, c2, by rw [e, List.length_take, Nat.min_eq_left HKle.out, HS.out, HK.out]⟩
        subst ev2
        refine ⟨_, rfl, ?_⟩
        have hb2 : Below w1.heap.size w1 w2 := ⟨hb.os, hb.tape, hb.output, hb.size, hb.block⟩
        have hr2 : bK.R 5 w2 w1.heap.size (fun _ => True) (.slice A2 (s + k) c2) (f.b.take (f.safe + kept keep f)) := hr
        have hS2 := Aside0.mk (And.intro (pw_cell_below hb2 zf) (pw_cell_below hb2 zs))
        refine hK.out _ _ hS2.out (fun hHeld => ?_)
        clear hK K
        refine norm_ (a' := ?_) ?_ ?_
        rotate_left
        · show Act.put _ (some 51) _ = _
          simp only [Act.put, List.setIfInBounds_toArray, List.set_cons_zero, List.set_cons_succ, i64_w, i32_w]
          rfl
        refine pure_ (i := 13) (N := some 52) (v := ?_) (a' := ?_) #[true, true, true, true, true, true, true, true, true, true, true, true, true, true, false, false] rfl rfl (by kernel_rfl) (fun _ _ _ h => h) (Or.inl ⟨by rfl, ?_⟩) ?_ ?_
        rotate_left
        · intro w'
          go_simp
          with_reducible rfl
        rotate_left
        · simp only [Act.put, List.setIfInBounds_toArray, List.set_cons_zero, List.set_cons_succ, i64_w, i32_w]
          rfl
        refine pure_ (i := 14) (N := some 53) (v := ?_) (a' := ?_) #[true, true, true, true, true, true, true, true, true, true, true, true, true, true, true, false] rfl rfl (by kernel_rfl) (fun _ _ _ h => h) (Or.inl ⟨by rfl, ?_⟩) ?_ ?_
        rotate_left
        · intro w'
          go_simp
          with_reducible rfl
        rotate_left
        · simp only [Act.put, List.setIfInBounds_toArray, List.set_cons_zero, List.set_cons_succ, i64_w, i32_w]
          rfl
        refine last_ (i := 15) (N := none) #[true, true, true, true, true, true, true, true, true, true, true, true, true, true, true, true] rfl rfl (by kernel_rfl) (by decide) (fun K hK => ?_)
        have zf2 := hS2.out.1
        have zs2 := hS2.out.2
        have zff2 : w2.frozen? ⟨b, 0, none⟩ = false := by rw [HBl.out]; exact blk_frozen ((hb2.block _ (blk_lt HQ1.out)).trans HQ1.out) 0
        have zsf2 : w2.frozen? ⟨b, 1, none⟩ = false := by rw [HBl.out]; exact blk_frozen ((hb2.block _ (blk_lt HQ1.out)).trans HQ1.out) 1
        rw [if_pos (by rfl)]
        go_simp
        refine hK.out _ _ ?_
        clear hK K
        refine done_ (by kernel_rfl) ?_
        by_cases c0 : torn = true ∧ 0 < k
        · obtain ⟨ct, ck⟩ := c0
          subst ct
          obtain ⟨g2, hg2, hge2⟩ : ∃ g2, A2 = some ⟨g2, 0, none⟩ ∧ w1.heap.size ≤ g2 := by
            rcases R_shape hr2 with ⟨e1, e2⟩ | ⟨g2, cap, e1, hge, hle⟩
            · injection e1 with _ e1
              exact absurd ck (by omega)
            · injection e1 with e1
              exact ⟨g2, e1, hge⟩
          subst hg2
          obtain ⟨y, hy⟩ : ∃ y, y = rdOf (0 : Int) (f.b.take (f.safe + kept keep f)) ((s : Int) + (k : Int) - 1) := ⟨_, rfl⟩
          have hx0 : 0 ≤ (s : Int) + (k : Int) - 1 := by omega
          have zx := (Kd.R_celln (0 : Int) hr2 ((s : Int) + (k : Int) - 1) hx0 (by omega)).1
          have fx := (Kd.R_celln (0 : Int) hr2 ((s : Int) + (k : Int) - 1) hx0 (by omega)).2
          have hto : ((s : Int) + (k : Int) - 1).toNat = s + k - 1 := by omega
          rw [← hy, hto] at zx
          rw [hto] at fx
          have hwx : wrap64 ((s : Int) + (k : Int) - 1) = (s : Int) + (k : Int) - 1 := w64 (by omega) (by have h1 := HLen.out; have h2 := HKle.out; have h3 := HS.out; have h4 := HK.out; omega)
          have hgb : g2 ≠ b := by have h1 := blk_lt HQ1.out; rw [HBl.out]; omega
          have hyd : y = (f.b.take (f.safe + kept keep f)).getD (s + k - 1) 0 := by rw [hy]; unfold rdOf; rw [hto]
          have hln : s + k - 1 < (f.b.take (f.safe + kept keep f)).length := by rw [List.length_take, Nat.min_eq_left HKle.out, ← HS.out, ← HK.out]; omega
          have hby : 0 ≤ y ∧ y ≤ 255 := by
            rw [hyd, List.getD_eq_getElem?_getD, List.getElem?_eq_getElem hln, Option.getD_some]
            exact HOk.out.bytes f HFl.out _ (List.mem_of_mem_take (List.getElem_mem hln))
          have hl : loseB keep true f = turnLast (f.b.take (f.safe + kept keep f)) := if_pos ⟨rfl, by rw [← HK.out]; exact ck⟩
          have HEnd := Aside0.mk (OffAt.round1 (y := bits .xor .u8 y 255) HW.out HC1.out hrg1 HRs.out HO1.out HB1.out HF.out HFl.out hb2 hr2 hl (Nat.lt_of_lt_of_le ck (Nat.le_add_left k s)) HQ1.out (Int.natCast_add s k) (by rw [xor_255 hby.1 hby.2, hyd]) HBl.out)
          have HY := Aside0.mk hy
          clear hyd hln hby hl hy
          go_wp2
          go_region
          go_wp2
          all_goals (obtain ⟨vl2, hE2⟩ := HEnd.out; have hE2 := hE2.drew_; exact ⟨⟨_, cnt1, _, vl2, hE2⟩, by rw [hE2.rg.left_eq, hrg.left_eq]; exact hlt⟩)
        · have hE : loseB keep torn f = f.b.take (f.safe + kept keep f) := if_neg (by rw [← HK.out]; exact c0)
          rw [← hE] at hr2
          have hz : ((loseB keep torn f).length : Int) = (s : Int) + (k : Int) := by rw [hE, List.length_take, Nat.min_eq_left HKle.out, HS.out, HK.out, Int.natCast_add]
          have HEnd := Aside0.mk (OffAt.round0 HW.out HC1.out hrg1 HRs.out HO1.out HB1.out HF.out HFl.out hb2 hr2 HQ1.out hz HBl.out)
          clear hE hr2 hz
          cases torn with
          | false =>
            clear c0
            go_wp2
            all_goals (obtain ⟨vl2, hE2⟩ := HEnd.out; exact ⟨⟨_, cnt1, _, vl2, hE2⟩, by rw [hE2.rg.left_eq, hrg.left_eq]; exact hlt⟩)
          | true =>
            have ck : ¬ 0 < k := fun h => c0 ⟨rfl, h⟩
            clear c0
            have e0 : k = 0 := Nat.eq_zero_of_not_pos ck
            subst e0
            simp only [Nat.add_zero, Int.natCast_zero, Int.add_zero] at HEnd
            go_wp2
            all_goals (obtain ⟨vl2, hE2⟩ := HEnd.out; exact ⟨⟨_, cnt1, _, vl2, hE2⟩, by rw [hE2.rg.left_eq, hrg.left_eq]; exact hlt⟩)
end
end Go.Proofs.Ytoedkemjidgbeaa.Dk
